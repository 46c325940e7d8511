/-
  FrameCrcC: lemmas on what Go functions of this seat come to (for whatever arguments, as each says). No condition but those that stand in each lemma.
-/
import Derived.Test.YteekaakkaogpeaaFrameF0
import Derived.Test.YteekaakkaogpeaaFrameOnceC
import Derived.Test.YteekaakkaogpeaaCrcM
import Derived.Test.YteekaakkaogpeaaLb5
namespace Go.Proofs.Yteekaakkaogpeaa
open Go Go.Ev Go.Crc
set_option maxRecDepth 100000
set_option linter.unusedVariables false
set_option linter.unusedSimpArgs false

theorem fdiv1 (v : BitVec 32) : Int.fdiv ((v.toNat : Nat) : Int) (2 ^ (min (Int.toNat 1) 32)) = (((v >>> 1).toNat : Nat) : Int) := fdiv_shr v 1
theorem fdiv8 (v : BitVec 32) : Int.fdiv ((v.toNat : Nat) : Int) (2 ^ (min (Int.toNat 8) 32)) = (((v >>> 8).toNat : Nat) : Int) := fdiv_shr v 8

def tl (i : Nat) : List Value := (List.range 256).map fun j => Value.int .u32 (if j < i then tab j else 0)
def hd (d m s : Int) : List Value := [.int .u32 d, .int .i32 m, .int .u32 s]

theorem tl_set (d m s : Int) {i : Nat} (hi : i < 256) : (hd d m s ++ tl i).set (3 + i) (.int .u32 (tab i)) = hd d m s ++ tl (i + 1) := by
  apply List.ext_getElem
  · simp [hd, tl]
  · intro j h1 h2
    rw [List.getElem_set]
    by_cases hj : 3 + i = j
    · subst hj
      rw [if_pos rfl, List.getElem_append_right (by simp [hd])]
      have e3 : ∀ h, (tl (i + 1))[3 + i - (hd d m s).length]'h = (tl (i + 1))[i]'(by simp [tl]; exact hi) := by
        intro h; congr 1; simp [hd]
      rw [e3]
      simp [tl]
    · simp only [hj, if_false]
      by_cases h3 : j < 3
      · rw [List.getElem_append_left (by simp [hd]; omega), List.getElem_append_left (by simp [hd]; omega)]
      · rw [List.getElem_append_right (by simp [hd]; omega), List.getElem_append_right (by simp [hd]; omega)]
        simp only [tl, List.getElem_map, List.getElem_range, hd, List.length_cons, List.length_nil]
        by_cases h4 : j - 3 < i
        · have : j - 3 < i + 1 := by omega
          simp [h4, this]
        · have : ¬ j - 3 < i + 1 := by omega
          simp [h4, this]

theorem tl_get (d m s : Int) {i : Nat} (hi : i < 256) : (hd d m s ++ tl 256)[3 + i]? = some (.int .u32 (tab i)) := by
  rw [List.getElem?_append_right (by simp [hd])]
  simp [hd, tl, hi]

theorem idxA_arr {a : Addr} {n i : Nat} (hi : i < n) : idxA (some a) n 1 (i : Int) = some (a.add i) := by
  unfold idxA
  rw [if_pos (by omega)]
  simp

section
variable {w : World}

theorem fill_inner {i : Nat} {p : Option Addr} : ∃ s' w', loopS (g36_l4_b p (i : Int)) (IntKind.u32.wrap (i : Int), 0) w = some (.exit 2, s', w') ∧ w' = w ∧ s'.1 = ((stepN 8 (BitVec.ofInt 32 (i : Int))).toNat : Nat) := by
  have h0 : IntKind.u32.wrap (i : Int) = (((BitVec.ofInt 32 (i : Int)).toNat : Nat) : Int) := by
    have e : IntKind.u32.wrap (i : Int) = (i : Int) % 4294967296 := by simp [IntKind.wrap, IntKind.bits, IntKind.signed]
    rw [e, BitVec.ofInt_natCast, BitVec.toNat_ofNat]
    omega
  generalize BitVec.ofInt 32 (i : Int) = r0 at h0
  obtain ⟨e, t, w', h1, rfl, rfl, h2⟩ := loopS_rule (b := g36_l4_b p (i : Int)) (I := fun k s w' => w' = w ∧ s = (((stepN k r0).toNat : Int), (k : Int))) (Q := fun e s w' => e = .exit 2 ∧ w' = w ∧ s.1 = ((stepN 8 r0).toNat : Nat)) (n := 8)
    (fun k s w1 hk ⟨hw, hs⟩ => by
      subst hw hs
      refine ⟨.normal, (((stepN (k + 1) r0).toNat : Int), ((k + 1 : Nat) : Int)), w1, ?_, .inl ⟨rfl, rfl, rfl⟩⟩
      have hc : (k : Int) < 8 := by omega
      have hs := wrap_succ (n := k) (by omega)
      unfold g36_l4_b
      rw [stepN_succ']
      generalize stepN k r0 = r
      simp only [hc, ofInt_toNat, bit0, fdiv1, hs, Option.bind_some, asP_pointer, asB_bool, asI_int, asS_string, asSl_slice, asM_map, asTup0, asTup1, asTup2, asTup3, asTup4, asTup5, getD0, getD1, getD2, getD3, getD4, Bool.not_true, Bool.not_false, Bool.false_eq_true, Bool.true_eq_false, ↓reduceIte, decide_true, decide_false, Option.isNone_some, Option.isNone_none, Option.isSome_some, Option.isSome_none, beq_self_eq_true, bne_self_eq_false, Bool.and_true, Bool.true_and, Bool.and_false, Bool.false_and, not_true_eq_false, not_false_eq_true]
      have e : BitVec.ofInt 32 2197175160 = poly := by decide
      rw [e, wrap32]
      unfold Go.Crc.step
      cases r.getLsbD 0
      · simp only [Option.bind_some, asP_pointer, asB_bool, asI_int, asS_string, asSl_slice, asM_map, asTup0, asTup1, asTup2, asTup3, asTup4, asTup5, getD0, getD1, getD2, getD3, getD4, Bool.not_true, Bool.not_false, Bool.false_eq_true, Bool.true_eq_false, ↓reduceIte, decide_true, decide_false, Option.isNone_some, Option.isNone_none, Option.isSome_some, Option.isSome_none, beq_self_eq_true, bne_self_eq_false, Bool.and_true, Bool.true_and, Bool.and_false, Bool.false_and, not_true_eq_false, not_false_eq_true]
        have : ((0 : Int) == 1) = false := by decide
        simp only [this, Option.bind_some, asP_pointer, asB_bool, asI_int, asS_string, asSl_slice, asM_map, asTup0, asTup1, asTup2, asTup3, asTup4, asTup5, getD0, getD1, getD2, getD3, getD4, Bool.not_true, Bool.not_false, Bool.false_eq_true, Bool.true_eq_false, ↓reduceIte, decide_true, decide_false, Option.isNone_some, Option.isNone_none, Option.isSome_some, Option.isSome_none, beq_self_eq_true, bne_self_eq_false, Bool.and_true, Bool.true_and, Bool.and_false, Bool.false_and, not_true_eq_false, not_false_eq_true]
      · simp only [Option.bind_some, asP_pointer, asB_bool, asI_int, asS_string, asSl_slice, asM_map, asTup0, asTup1, asTup2, asTup3, asTup4, asTup5, getD0, getD1, getD2, getD3, getD4, Bool.not_true, Bool.not_false, Bool.false_eq_true, Bool.true_eq_false, ↓reduceIte, decide_true, decide_false, Option.isNone_some, Option.isNone_none, Option.isSome_some, Option.isSome_none, beq_self_eq_true, bne_self_eq_false, Bool.and_true, Bool.true_and, Bool.and_false, Bool.false_and, not_true_eq_false, not_false_eq_true]
        )
    (fun s w1 ⟨hw, hs⟩ => by
      subst hw hs
      refine ⟨.exit 2, (((stepN 8 r0).toNat : Int), ((8 : Nat) : Int)), w1, ?_, by simp, rfl, rfl, rfl⟩
      unfold g36_l4_b
      have hc : ¬ ((8 : Nat) : Int) < 8 := by decide
      simp only [hc, Option.bind_some, asP_pointer, asB_bool, asI_int, asS_string, asSl_slice, asM_map, asTup0, asTup1, asTup2, asTup3, asTup4, asTup5, getD0, getD1, getD2, getD3, getD4, Bool.not_true, Bool.not_false, Bool.false_eq_true, Bool.true_eq_false, ↓reduceIte, decide_true, decide_false, Option.isNone_some, Option.isNone_none, Option.isSome_some, Option.isSome_none, beq_self_eq_true, bne_self_eq_false, Bool.and_true, Bool.true_and, Bool.and_false, Bool.false_and, not_true_eq_false, not_false_eq_true])
    (Nat.zero_le _) (k := 0) (s := (((stepN 0 r0).toNat : Int), ((0 : Nat) : Int))) (w := w) ⟨rfl, rfl⟩
  refine ⟨t, w', ?_, rfl, h2⟩
  rw [h0]; exact h1

theorem fill16 {b : Nat} {d m s : Int} (h : Blk w b (hd d m s ++ tl 0) 83) :
    ∃ w', callF Try.prog 36 #[.pointer (some ⟨b, 0, none⟩)] w = some (.tuple #[], w') ∧ Blk w' b (hd d m s ++ tl 256) 83 ∧ Fr [b] w w' := by
  obtain ⟨t, w', h1, h2, h3, h4⟩ := loopS_count (b := g36_l1_b (some ⟨b, 0, none⟩)) (I := fun i st w' => st = (i : Int) ∧ Blk w' b (hd d m s ++ tl i) 83 ∧ Fr [b] w w') (n := 256)
    (fun i st w1 hi ⟨hs, hb, hf⟩ => by
      subst hs
      obtain ⟨t, w2, e1, hw2, e2⟩ := fill_inner (w := w1) (i := i) (p := some ⟨b, 0, none⟩)
      rw [hw2] at e1
      have hset := hb.set (3 + i) (.int .u32 (tab i))
      rw [tl_set d m s hi] at hset
      refine ⟨((i + 1 : Nat) : Int), w1.setCell ⟨b, 3 + i, none⟩ (.int .u32 (tab i)), ?_, rfl, hset, hf.trans Fr.setCell⟩
      have hc : (i : Int) < 256 := by omega
      have hs := wrap_succ (n := i) (by omega)
      have hix := idxA_arr (a := ⟨b, 0 + 3, none⟩) hi
      have hst : st1 w1 ⟨b, 3 + i, none⟩ (.int .u32 (tab i)) = some (w1.setCell ⟨b, 3 + i, none⟩ (.int .u32 (tab i))) := hb.st1 (by simp [hd, tl]; omega) rfl
      have ht : t.1 = tab i := by rw [e2]; simp [tab]
      rw [addr_add, Nat.zero_add] at hix
      unfold g36_l1_b
      simp only [hc, g36_l4_x2_of e1, Option.bind_some, asP_pointer, asB_bool, asI_int, asS_string, asSl_slice, asM_map, asTup0, asTup1, asTup2, asTup3, asTup4, asTup5, getD0, getD1, getD2, getD3, getD4, Bool.not_true, Bool.not_false, Bool.false_eq_true, Bool.true_eq_false, ↓reduceIte, decide_true, decide_false, Option.isNone_some, Option.isNone_none, Option.isSome_some, Option.isSome_none, beq_self_eq_true, bne_self_eq_false, Bool.and_true, Bool.true_and, Bool.and_false, Bool.false_and, not_true_eq_false, not_false_eq_true]
      unfold g36_l4_x2
      simp only [addr_add, Nat.zero_add, hix, ht, hst, hs, Option.bind_some, asP_pointer, asB_bool, asI_int, asS_string, asSl_slice, asM_map, asTup0, asTup1, asTup2, asTup3, asTup4, asTup5, getD0, getD1, getD2, getD3, getD4, Bool.not_true, Bool.not_false, Bool.false_eq_true, Bool.true_eq_false, ↓reduceIte, decide_true, decide_false, Option.isNone_some, Option.isNone_none, Option.isSome_some, Option.isSome_none, beq_self_eq_true, bne_self_eq_false, Bool.and_true, Bool.true_and, Bool.and_false, Bool.false_and, not_true_eq_false, not_false_eq_true])
    (fun st w1 ⟨hs, _, _⟩ => by
      subst hs
      have hc : ¬ ((256 : Nat) : Int) < 256 := by decide
      unfold g36_l1_b
      simp only [hc, Option.bind_some, asP_pointer, asB_bool, asI_int, asS_string, asSl_slice, asM_map, asTup0, asTup1, asTup2, asTup3, asTup4, asTup5, getD0, getD1, getD2, getD3, getD4, Bool.not_true, Bool.not_false, Bool.false_eq_true, Bool.true_eq_false, ↓reduceIte, decide_true, decide_false, Option.isNone_some, Option.isNone_none, Option.isSome_some, Option.isSome_none, beq_self_eq_true, bne_self_eq_false, Bool.and_true, Bool.true_and, Bool.and_false, Bool.false_and, not_true_eq_false, not_false_eq_true]
      )
    (Nat.zero_le _) (k := 0) (s := ((0 : Nat) : Int)) (w := w) ⟨rfl, h, Fr.refl _ _⟩
  refine ⟨w', g36_call ?_, h3, h4⟩
  have h1' := g36_l1_x0_of h1
  simp only [Int.natCast_zero] at h1'
  unfold g36
  simp only [h1', g36_l1_x0, Option.bind_some, asP_pointer, asB_bool, asI_int, asS_string, asSl_slice, asM_map, asTup0, asTup1, asTup2, asTup3, asTup4, asTup5, getD0, getD1, getD2, getD3, getD4, Bool.not_true, Bool.not_false, Bool.false_eq_true, Bool.true_eq_false, ↓reduceIte, decide_true, decide_false, Option.isNone_some, Option.isNone_none, Option.isSome_some, Option.isSome_none, beq_self_eq_true, bne_self_eq_false, Bool.and_true, Bool.true_and, Bool.and_false, Bool.false_and, not_true_eq_false, not_false_eq_true]
end
end Go.Proofs.Yteekaakkaogpeaa
