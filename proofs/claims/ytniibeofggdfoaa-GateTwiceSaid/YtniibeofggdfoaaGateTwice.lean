/-
  GateTwice: lemmas on what Go functions of this seat come to (for whatever arguments, as each says). No condition but those that stand in each lemma.
-/
import Derived.Test.YtniibeofggdfoaaGateMarks
namespace Go.Proofs.Ytniibeofggdfoaa
open Go Go.Ev
set_option maxRecDepth 100000
set_option linter.unusedVariables false
set_option linter.unusedSimpArgs false

theorem cnt_set (M : Nat → Bool) (a : Nat) : ∀ n, cntN (fun j => if j = a then true else M j) n = cntN M n + (if a < n ∧ M a = false then 1 else 0)
  | 0 => by simp [cntN, Pop.S]
  | n + 1 => by
    have ih := cnt_set M a n
    unfold cntN at *
    simp only [Pop.S, ih]
    by_cases h : n = a
    · subst h
      rcases Bool.eq_false_or_eq_true (M n) with hM | hM <;> simp [hM]
    · by_cases h2 : a < n
      · have h3 : a < n + 1 := by omega
        cases hM : M a <;> simp [h, h2, h3] <;> omega
      · have h3 : ¬ a < n + 1 := by omega
        simp [h, h2, h3]
theorem cnt_clear (M : Nat → Bool) (a : Nat) : ∀ n, cntN (fun j => if j = a then false else M j) n + (if a < n ∧ M a = true then 1 else 0) = cntN M n
  | 0 => by simp [cntN, Pop.S]
  | n + 1 => by
    have ih := cnt_clear M a n
    unfold cntN at *
    simp only [Pop.S]
    rw [← ih]
    by_cases h : n = a
    · subst h
      rcases Bool.eq_false_or_eq_true (M n) with hM | hM <;> simp [hM]
    · by_cases h2 : a < n
      · have h3 : a < n + 1 := by omega
        cases hM : M a <;> simp [h, h2, h3] <;> omega
      · have h3 : ¬ a < n + 1 := by omega
        simp [h, h2, h3]
theorem cnt_zero : ∀ n, cntN (fun _ => false) n = 0
  | 0 => rfl
  | n + 1 => by have := cnt_zero n; unfold cntN at *; simp only [Pop.S, this]; simp

/-- the marks of the first k -/
def inM (l : List Int) (k : Nat) (j : Nat) : Bool := decide ((j : Int) ∈ l.take k)
/-- those of all, without the first k -/
def outM (l : List Int) (k : Nat) (j : Nat) : Bool := decide ((j : Int) ∈ l ∧ (j : Int) ∉ l.take k)

theorem mem_take_succ {l : List Int} {k : Nat} (hk : k < l.length) (x : Int) : x ∈ l.take (k + 1) ↔ x ∈ l.take k ∨ x = l[k] := by
  rw [List.take_succ_eq_append_getElem hk, List.mem_append, List.mem_singleton]

theorem inM_succ {l : List Int} {k : Nat} (hk : k < l.length) (hz : 0 ≤ l[k] ∧ l[k] < 256) : inM l (k + 1) = turnM (inM l k) l[k] true := by
  funext j
  unfold turnM inM
  rw [if_pos (by omega)]
  by_cases h : j = l[k].toNat
  · have : (j : Int) = l[k] := by omega
    simp only [mem_take_succ hk, this, or_true, decide_true, if_pos h]
  · have : ¬ (j : Int) = l[k] := by omega
    simp only [mem_take_succ hk, this, or_false, if_neg h]
theorem outM_succ {l : List Int} {k : Nat} (hk : k < l.length) (hz : 0 ≤ l[k] ∧ l[k] < 256) : outM l (k + 1) = turnM (outM l k) l[k] false := by
  funext j
  unfold turnM outM
  rw [if_pos (by omega)]
  by_cases h : j = l[k].toNat
  · have : (j : Int) = l[k] := by omega
    rw [if_pos h]
    simp only [mem_take_succ hk, this, or_true, not_true_eq_false, and_false, decide_false]
  · have : ¬ (j : Int) = l[k] := by omega
    rw [if_neg h]
    simp only [mem_take_succ hk, this, or_false]

theorem first10 {w w0 : World} {u0 : Option Addr × Nat × Nat} {l : List Int} {B : Nat} {s0 : Bool} {n : Int} (hu : SlI .u8 w u0 l) {i : Nat} (hi : i < l.length) (x : Int) (hl : l.length ≤ 9223372036854775807) :
    ∃ t, loopS (g6_l10_b (s0, n, (i : Int)) u0 x w0) (true, 0) w = some (.exit 2, t, w) ∧ t.1 = !decide (x ∈ l.take i) := by
  obtain ⟨t, w', e, g1, g2⟩ := loopS_countX 2 (b := g6_l10_b (s0, n, (i : Int)) u0 x w0) (I := fun k s y => s = (!decide (x ∈ l.take k), (k : Int)) ∧ y = w) (n := i)
    (fun k s y hk ⟨hs, hy⟩ => by
      subst hs hy
      obtain ⟨a, i1, c1⟩ := hu.get (i := k) (by omega)
      have hc : (k : Int) < (i : Int) := by omega
      have hs := wrap_succ (n := k) (by omega)
      refine ⟨(!decide (x ∈ l.take (k + 1)), ((k + 1 : Nat) : Int)), y, ?_, rfl, rfl⟩
      have htk := mem_take_succ (show k < l.length by omega) x
      by_cases hm : x ∈ l.take k
      · have h1 : (!decide (x ∈ l.take k)) = false := by simp [hm]
        have h2 : (!decide (x ∈ l.take (k + 1))) = false := by simp only [htk, hm, true_or, decide_true, Bool.not_true]
        rw [h1, h2]
        unfold g6_l10_b
        simp only [hc, hs, Option.bind_some, asP_pointer, asB_bool, asI_int, asS_string, asSl_slice, asM_map, asTup0, asTup1, asTup2, asTup3, asTup4, asTup5, getD0, getD1, getD2, getD3, getD4, Bool.not_true, Bool.not_false, Bool.false_eq_true, Bool.true_eq_false, ↓reduceIte, decide_true, decide_false, Option.isNone_some, Option.isNone_none, Option.isSome_some, Option.isSome_none, beq_self_eq_true, bne_self_eq_false, Bool.and_true, Bool.true_and, Bool.and_false, Bool.false_and, not_true_eq_false, not_false_eq_true]
      · have h1 : (!decide (x ∈ l.take k)) = true := by simp [hm]
        have h2 : (!decide (x ∈ l.take (k + 1))) = (l[k]'(by omega) != x) := by
          by_cases he : x = l[k]'(by omega)
          · simp only [htk, ← he, or_true, decide_true, Bool.not_true]; simp
          · have : ¬ l[k]'(by omega) = x := fun e => he e.symm
            simp only [htk, hm, he, or_self, decide_false, Bool.not_false]; simp [this]
        rw [h1, h2]
        unfold g6_l10_b
        simp only [hc, i1, c1, hs, Option.bind_some, asP_pointer, asB_bool, asI_int, asS_string, asSl_slice, asM_map, asTup0, asTup1, asTup2, asTup3, asTup4, asTup5, getD0, getD1, getD2, getD3, getD4, Bool.not_true, Bool.not_false, Bool.false_eq_true, Bool.true_eq_false, ↓reduceIte, decide_true, decide_false, Option.isNone_some, Option.isNone_none, Option.isSome_some, Option.isSome_none, beq_self_eq_true, bne_self_eq_false, Bool.and_true, Bool.true_and, Bool.and_false, Bool.false_and, not_true_eq_false, not_false_eq_true])
    (fun s y ⟨hs, hy⟩ => by
      subst hs hy
      have hc : ¬ (i : Int) < (i : Int) := by omega
      unfold g6_l10_b
      simp only [hc, Option.bind_some, asP_pointer, asB_bool, asI_int, asS_string, asSl_slice, asM_map, asTup0, asTup1, asTup2, asTup3, asTup4, asTup5, getD0, getD1, getD2, getD3, getD4, Bool.not_true, Bool.not_false, Bool.false_eq_true, Bool.true_eq_false, ↓reduceIte, decide_true, decide_false, Option.isNone_some, Option.isNone_none, Option.isSome_some, Option.isSome_none, beq_self_eq_true, bne_self_eq_false, Bool.and_true, Bool.true_and, Bool.and_false, Bool.false_and, not_true_eq_false, not_false_eq_true])
    (Nat.zero_le _) (k := 0) (s := (true, 0)) (w := w) ⟨by simp, rfl⟩
  subst g2
  exact ⟨t, e, by rw [g1]⟩

theorem GateTwice_main (W : World) (x0 : (Ty.slice (.int .u8)).Val) (h0 : (Ty.slice (.int .u8)).At W [.slice x0.1.1 x0.1.2.1 x0.1.2.2] x0) :
    ∃ w', callF Try.prog 6 #[.slice x0.1.1 x0.1.2.1 x0.1.2.2] W = some (.bool true, w') ∧ Fr [] W w' := by
  have hml : maxLen < 9223372036854775808 := by decide
  have hlen : x0.2.length ≤ 9223372036854775807 := by have := h0.2.1; have := h0.2.2.1; have := h0.2.2.2.1; omega
  obtain ⟨hu, hz0, hlt⟩ := slI_of_at h0
  generalize x0.1 = u0 at hu
  obtain ⟨l, hl'⟩ : ∃ l : List Int, x0.2 = l := ⟨_, rfl⟩
  rw [hl'] at hlen hu hz0
  have hz : ∀ k (h : k < l.length), 0 ≤ l[k] ∧ l[k] < 256 := fun k h => u8_range (hz0 _ (List.getElem_mem h))
  have hul := hu.1
  have f1 : Fr [] W (W.alloc (.cells #[.int .u64 0, .int .u64 0, .int .u64 0, .int .u64 0] 51)) := Fr.alloc _
  have m1 := Mk.new W
  obtain ⟨w1, hw1⟩ : ∃ w1, W.alloc (.cells #[.int .u64 0, .int .u64 0, .int .u64 0, .int .u64 0] 51) = w1 := ⟨_, rfl⟩
  rw [hw1] at f1 m1
  obtain ⟨w3, e3, f3⟩ := awake11 (w := w1)
  have m3 := m1.fr f3 (by simp)
  have c0 : inM l 0 = fun _ => false := by funext j; simp [inM]
  obtain ⟨t, w4, e4, rfl, m4, f4⟩ := loopS_count (b := g6_l4_b u0 W) (I := fun k s x => s = (false, ((cntN (inM l k) 256 : Nat) : Int), (k : Int)) ∧ Mk x W.heap.size (inM l k) ∧ Fr [] W x) (n := l.length)
    (fun k s x hk ⟨hs, hm, hf⟩ => by
      subst hs
      have hux := hu.fr2 hf (by simp)
      obtain ⟨a, i1, c1⟩ := hux.get hk
      obtain ⟨t, e5, ht⟩ := first10 (w0 := W) (s0 := false) (n := ((cntN (inM l k) 256 : Nat) : Int)) (B := 0) hux hk l[k] (by omega)
      have hzk := hz k hk
      have hc : (k : Int) < (u0.2.1 : Int) := by omega
      have hs := wrap_succ (n := k) (by omega)
      have hw : IntKind.i64.wrap l[k] = l[k] := wrap_i64 (by omega) (by omega)
      obtain ⟨x2, e6, m6, f6⟩ := set19 hm l[k]
      have hle : cntN (inM l k) 256 ≤ 256 := S_le _ 256
      have hin : inM l k l[k].toNat = decide (l[k] ∈ l.take k) := by
        unfold inM
        have : ((l[k].toNat : Nat) : Int) = l[k] := by omega
        rw [this]
      have hR : turnR (inM l k) l[k] true = t.1 := by
        unfold turnR
        rw [if_pos (by omega), hin, ht]
        cases decide (l[k] ∈ l.take k) <;> rfl
      have hcnt : cntN (inM l (k + 1)) 256 = cntN (inM l k) 256 + (if t.1 = true then 1 else 0) := by
        rw [inM_succ hk hzk]
        unfold turnM
        rw [if_pos (by omega), cnt_set, ht, hin]
        have : l[k].toNat < 256 := by omega
        simp [this]
      rw [hR] at e6
      rw [← inM_succ hk hzk] at m6
      refine ⟨(false, ((cntN (inM l (k + 1)) 256 : Nat) : Int), ((k + 1 : Nat) : Int)), x2, ?_, rfl, m6, (Fr.mono (Fr.app hf f6) (by have z0_ := Fr.size hf; have z1_ := Fr.size f6; intro y_ hy_ hl_; grind [blkOf]))⟩
      have hbeq : (!(t.1 == t.1)) = false := by simp
      unfold g6_l4_b
      simp only [hc, i1, c1, g6_l10_x2_of e5, Option.bind_some, asP_pointer, asB_bool, asI_int, asS_string, asSl_slice, asM_map, asTup0, asTup1, asTup2, asTup3, asTup4, asTup5, getD0, getD1, getD2, getD3, getD4, Bool.not_true, Bool.not_false, Bool.false_eq_true, Bool.true_eq_false, ↓reduceIte, decide_true, decide_false, Option.isNone_some, Option.isNone_none, Option.isSome_some, Option.isSome_none, beq_self_eq_true, bne_self_eq_false, Bool.and_true, Bool.true_and, Bool.and_false, Bool.false_and, not_true_eq_false, not_false_eq_true]
      unfold g6_l10_x2
      rw [hcnt]
      cases htt : t.1
      · rw [htt] at e6
        simp only [hw, e6, hs, Option.bind_some, asP_pointer, asB_bool, asI_int, asS_string, asSl_slice, asM_map, asTup0, asTup1, asTup2, asTup3, asTup4, asTup5, getD0, getD1, getD2, getD3, getD4, Bool.not_true, Bool.not_false, Bool.false_eq_true, Bool.true_eq_false, ↓reduceIte, decide_true, decide_false, Option.isNone_some, Option.isNone_none, Option.isSome_some, Option.isSome_none, beq_self_eq_true, bne_self_eq_false, Bool.and_true, Bool.true_and, Bool.and_false, Bool.false_and, not_true_eq_false, not_false_eq_true]
        rfl
      · rw [htt] at e6
        have hw2 := wrap_succ (n := cntN (inM l k) 256) (by omega)
        simp only [hw, e6, hs, hw2, Option.bind_some, asP_pointer, asB_bool, asI_int, asS_string, asSl_slice, asM_map, asTup0, asTup1, asTup2, asTup3, asTup4, asTup5, getD0, getD1, getD2, getD3, getD4, Bool.not_true, Bool.not_false, Bool.false_eq_true, Bool.true_eq_false, ↓reduceIte, decide_true, decide_false, Option.isNone_some, Option.isNone_none, Option.isSome_some, Option.isSome_none, beq_self_eq_true, bne_self_eq_false, Bool.and_true, Bool.true_and, Bool.and_false, Bool.false_and, not_true_eq_false, not_false_eq_true])
    (fun s x ⟨hs, _, _⟩ => by
      subst hs
      have hc : ¬ ((l.length : Nat) : Int) < (u0.2.1 : Int) := by omega
      unfold g6_l4_b
      simp only [hc, Option.bind_some, asP_pointer, asB_bool, asI_int, asS_string, asSl_slice, asM_map, asTup0, asTup1, asTup2, asTup3, asTup4, asTup5, getD0, getD1, getD2, getD3, getD4, Bool.not_true, Bool.not_false, Bool.false_eq_true, Bool.true_eq_false, ↓reduceIte, decide_true, decide_false, Option.isNone_some, Option.isNone_none, Option.isSome_some, Option.isSome_none, beq_self_eq_true, bne_self_eq_false, Bool.and_true, Bool.true_and, Bool.and_false, Bool.false_and, not_true_eq_false, not_false_eq_true])
    (Nat.zero_le _) (k := 0) (s := (false, 0, 0)) (w := w3) ⟨by rw [c0, cnt_zero]; rfl, by rw [c0]; exact m3, (Fr.mono (Fr.app f1 f3) (by have z0_ := Fr.size f1; have z1_ := Fr.size f3; intro y_ hy_ hl_; grind [blkOf]))⟩
  have hall : inM l l.length = outM l 0 := by
    funext j; simp [inM, outM]
  rw [hall] at m4
  have e7 := count20 m4
  have hnone : outM l l.length = fun _ => false := by
    funext j; simp [outM]
  obtain ⟨t, w5, e5, rfl, m5, f5⟩ := loopS_countX 4 (b := g6_l33_b u0 W) (I := fun k s x => s = (((cntN (outM l k) 256 : Nat) : Int), (k : Int)) ∧ Mk x W.heap.size (outM l k) ∧ Fr [] W x) (n := l.length)
    (fun k s x hk ⟨hs, hm, hf⟩ => by
      subst hs
      have hux := hu.fr2 hf (by simp)
      obtain ⟨a, i1, c1⟩ := hux.get hk
      have hzk := hz k hk
      have hc : (k : Int) < (u0.2.1 : Int) := by omega
      have hs := wrap_succ (n := k) (by omega)
      have hw : IntKind.i64.wrap l[k] = l[k] := wrap_i64 (by omega) (by omega)
      obtain ⟨x2, e6, m6, f6⟩ := clear21 hm l[k]
      have hle : cntN (outM l k) 256 ≤ 256 := S_le _ 256
      have hlt256 : l[k].toNat < 256 := by omega
      have hR : turnR (outM l k) l[k] false = outM l k l[k].toNat := by
        unfold turnR
        rw [if_pos (by omega)]
        cases outM l k l[k].toNat <;> rfl
      have hcnt := cnt_clear (outM l k) l[k].toNat 256
      have hMk : (fun j => if j = l[k].toNat then false else outM l k j) = outM l (k + 1) := by
        rw [outM_succ hk hzk]; unfold turnM; rw [if_pos (by omega)]
      rw [hMk] at hcnt
      rw [hR] at e6
      rw [← outM_succ hk hzk] at m6
      refine ⟨(((cntN (outM l (k + 1)) 256 : Nat) : Int), ((k + 1 : Nat) : Int)), x2, ?_, rfl, m6, (Fr.mono (Fr.app hf f6) (by have z0_ := Fr.size hf; have z1_ := Fr.size f6; intro y_ hy_ hl_; grind [blkOf]))⟩
      unfold g6_l33_b
      cases htt : outM l k l[k].toNat
      · rw [htt] at e6
        have : cntN (outM l k) 256 = cntN (outM l (k + 1)) 256 := by simp [htt] at hcnt; omega
        simp only [hc, i1, c1, hw, e6, hs, this, Option.bind_some, asP_pointer, asB_bool, asI_int, asS_string, asSl_slice, asM_map, asTup0, asTup1, asTup2, asTup3, asTup4, asTup5, getD0, getD1, getD2, getD3, getD4, Bool.not_true, Bool.not_false, Bool.false_eq_true, Bool.true_eq_false, ↓reduceIte, decide_true, decide_false, Option.isNone_some, Option.isNone_none, Option.isSome_some, Option.isSome_none, beq_self_eq_true, bne_self_eq_false, Bool.and_true, Bool.true_and, Bool.and_false, Bool.false_and, not_true_eq_false, not_false_eq_true]
      · rw [htt] at e6
        have : IntKind.i64.wrap (((cntN (outM l k) 256 : Nat) : Int) - 1) = ((cntN (outM l (k + 1)) 256 : Nat) : Int) := by
          rw [if_pos ⟨hlt256, htt⟩] at hcnt
          rw [wrap_i64 (by omega) (by omega)]; omega
        simp only [hc, i1, c1, hw, e6, hs, this, Option.bind_some, asP_pointer, asB_bool, asI_int, asS_string, asSl_slice, asM_map, asTup0, asTup1, asTup2, asTup3, asTup4, asTup5, getD0, getD1, getD2, getD3, getD4, Bool.not_true, Bool.not_false, Bool.false_eq_true, Bool.true_eq_false, ↓reduceIte, decide_true, decide_false, Option.isNone_some, Option.isNone_none, Option.isSome_some, Option.isSome_none, beq_self_eq_true, bne_self_eq_false, Bool.and_true, Bool.true_and, Bool.and_false, Bool.false_and, not_true_eq_false, not_false_eq_true])
    (fun s x ⟨hs, _, _⟩ => by
      subst hs
      have hc : ¬ ((l.length : Nat) : Int) < (u0.2.1 : Int) := by omega
      unfold g6_l33_b
      simp only [hc, Option.bind_some, asP_pointer, asB_bool, asI_int, asS_string, asSl_slice, asM_map, asTup0, asTup1, asTup2, asTup3, asTup4, asTup5, getD0, getD1, getD2, getD3, getD4, Bool.not_true, Bool.not_false, Bool.false_eq_true, Bool.true_eq_false, ↓reduceIte, decide_true, decide_false, Option.isNone_some, Option.isNone_none, Option.isSome_some, Option.isSome_none, beq_self_eq_true, bne_self_eq_false, Bool.and_true, Bool.true_and, Bool.and_false, Bool.false_and, not_true_eq_false, not_false_eq_true])
    (Nat.zero_le _) (k := 0) (s := (((cntN (outM l 0) 256 : Nat) : Int), 0)) (w := w4) ⟨rfl, m4, f4⟩
  have e8 := count20 m5
  rw [hnone, cnt_zero] at e8
  refine ⟨w5, g6_call ?_, f5⟩
  have h00 : (((0 : Nat) : Int) == 0) = true := by decide
  unfold g6
  rw [hw1]
  simp only [e3, g6_l4_x0_of e4, Option.bind_some, asP_pointer, asB_bool, asI_int, asS_string, asSl_slice, asM_map, asTup0, asTup1, asTup2, asTup3, asTup4, asTup5, getD0, getD1, getD2, getD3, getD4, Bool.not_true, Bool.not_false, Bool.false_eq_true, Bool.true_eq_false, ↓reduceIte, decide_true, decide_false, Option.isNone_some, Option.isNone_none, Option.isSome_some, Option.isSome_none, beq_self_eq_true, bne_self_eq_false, Bool.and_true, Bool.true_and, Bool.and_false, Bool.false_and, not_true_eq_false, not_false_eq_true]
  unfold g6_l4_x0
  rw [hall]
  simp only [e7, g6_l33_x4_of e5, Option.bind_some, asP_pointer, asB_bool, asI_int, asS_string, asSl_slice, asM_map, asTup0, asTup1, asTup2, asTup3, asTup4, asTup5, getD0, getD1, getD2, getD3, getD4, Bool.not_true, Bool.not_false, Bool.false_eq_true, Bool.true_eq_false, ↓reduceIte, decide_true, decide_false, Option.isNone_some, Option.isNone_none, Option.isSome_some, Option.isSome_none, beq_self_eq_true, bne_self_eq_false, Bool.and_true, Bool.true_and, Bool.and_false, Bool.false_and, not_true_eq_false, not_false_eq_true]
  unfold g6_l33_x4
  rw [hnone, cnt_zero]
  simp only [h00, e8, Option.bind_some, asP_pointer, asB_bool, asI_int, asS_string, asSl_slice, asM_map, asTup0, asTup1, asTup2, asTup3, asTup4, asTup5, getD0, getD1, getD2, getD3, getD4, Bool.not_true, Bool.not_false, Bool.false_eq_true, Bool.true_eq_false, ↓reduceIte, decide_true, decide_false, Option.isNone_some, Option.isNone_none, Option.isSome_some, Option.isSome_none, beq_self_eq_true, bne_self_eq_false, Bool.and_true, Bool.true_and, Bool.and_false, Bool.false_and, not_true_eq_false, not_false_eq_true]
end Go.Proofs.Ytniibeofggdfoaa
