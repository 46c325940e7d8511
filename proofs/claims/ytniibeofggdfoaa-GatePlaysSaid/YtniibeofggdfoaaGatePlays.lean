/-
  GatePlays: lemmas on what Go functions of this seat come to (for whatever arguments, as each says). No condition but those that stand in each lemma.
-/
import Derived.Test.YtniibeofggdfoaaGateC
namespace Go.Proofs.Ytniibeofggdfoaa
open Go Go.Ev
set_option maxRecDepth 100000
set_option linter.unusedVariables false
set_option linter.unusedSimpArgs false
section
variable {w : World}

theorem ref14 (f l : Int) : callF Try.prog 14 #[.int .u64 f, .int .u64 l] w = some (.pointer (some ⟨w.heap.size, 0, none⟩), w.alloc (.cells #[.int .u64 (if l < f then l else f), .int .u64 l] 40)) := by
  refine g14_call ?_
  unfold g14 g14_j1
  by_cases h : f > l
  · have h' : l < f := h
    simp only [h, h', Option.bind_some, asP_pointer, asB_bool, asI_int, asS_string, asSl_slice, asM_map, asTup0, asTup1, asTup2, asTup3, asTup4, asTup5, getD0, getD1, getD2, getD3, getD4, Bool.not_true, Bool.not_false, Bool.false_eq_true, Bool.true_eq_false, ↓reduceIte, decide_true, decide_false, Option.isNone_some, Option.isNone_none, Option.isSome_some, Option.isSome_none, beq_self_eq_true, bne_self_eq_false, Bool.and_true, Bool.true_and, Bool.and_false, Bool.false_and, not_true_eq_false, not_false_eq_true]
  · have h' : ¬ l < f := h
    simp only [h, h', Option.bind_some, asP_pointer, asB_bool, asI_int, asS_string, asSl_slice, asM_map, asTup0, asTup1, asTup2, asTup3, asTup4, asTup5, getD0, getD1, getD2, getD3, getD4, Bool.not_true, Bool.not_false, Bool.false_eq_true, Bool.true_eq_false, ↓reduceIte, decide_true, decide_false, Option.isNone_some, Option.isNone_none, Option.isSome_some, Option.isSome_none, beq_self_eq_true, bne_self_eq_false, Bool.and_true, Bool.true_and, Bool.and_false, Bool.false_and, not_true_eq_false, not_false_eq_true]

theorem ref15 {b : Nat} {x l n : Int} (h : Blk w b [.int .u64 x, .int .u64 l] 40) (hx : 0 ≤ x) (hxl : x ≤ l) (hl : l < 18446744073709551616) (hn : 0 ≤ n) (hn2 : n < 18446744073709551616) :
    ∃ w', callF Try.prog 15 #[.pointer (some ⟨b, 0, none⟩), .int .u64 n] w = some (.tuple #[.int .u64 (blockOf x l n).1, .bool (blockOf x l n).2.1], w') ∧
      Blk w' b [.int .u64 (blockOf x l n).2.2, .int .u64 l] 40 ∧ Fr [b] w w' := by
  have hd := h.drew
  have c0 : w.drew.cell? ⟨b, 0, none⟩ = some (.int .u64 x) := hd.cell 0
  have c1 : w.drew.cell? ⟨b, 1, none⟩ = some (.int .u64 l) := hd.cell 1
  have hw : IntKind.u64.wrap (l - x) = l - x := wrap_u64 (by omega) (by omega)
  by_cases h1 : n < 1
  · have hb : blockOf x l n = (0, false, x) := by unfold blockOf; rw [if_pos (.inl (by omega))]
    rw [hb]
    refine ⟨w.drew, g15_call ?_, hd, Fr.drew _ _⟩
    unfold g15
    simp only [addr_add, Nat.zero_add, c0, c1, hw, h1, Option.bind_some, asP_pointer, asB_bool, asI_int, asS_string, asSl_slice, asM_map, asTup0, asTup1, asTup2, asTup3, asTup4, asTup5, getD0, getD1, getD2, getD3, getD4, Bool.not_true, Bool.not_false, Bool.false_eq_true, Bool.true_eq_false, ↓reduceIte, decide_true, decide_false, Option.isNone_some, Option.isNone_none, Option.isSome_some, Option.isSome_none, beq_self_eq_true, bne_self_eq_false, Bool.and_true, Bool.true_and, Bool.and_false, Bool.false_and, not_true_eq_false, not_false_eq_true]
  · by_cases h2 : n > l - x
    · have hb : blockOf x l n = (0, false, x) := by unfold blockOf; rw [if_pos (.inr (by omega))]
      rw [hb]
      refine ⟨w.drew, g15_call ?_, hd, Fr.drew _ _⟩
      unfold g15
      simp only [addr_add, Nat.zero_add, c0, c1, hw, h1, h2, Option.bind_some, asP_pointer, asB_bool, asI_int, asS_string, asSl_slice, asM_map, asTup0, asTup1, asTup2, asTup3, asTup4, asTup5, getD0, getD1, getD2, getD3, getD4, Bool.not_true, Bool.not_false, Bool.false_eq_true, Bool.true_eq_false, ↓reduceIte, decide_true, decide_false, Option.isNone_some, Option.isNone_none, Option.isSome_some, Option.isSome_none, beq_self_eq_true, bne_self_eq_false, Bool.and_true, Bool.true_and, Bool.and_false, Bool.false_and, not_true_eq_false, not_false_eq_true]
    · have hb : blockOf x l n = (x, true, x + n) := by unfold blockOf; rw [if_neg (by omega)]
      have hw2 : IntKind.u64.wrap (x + n) = x + n := wrap_u64 (by omega) (by omega)
      rw [hb]
      refine ⟨w.drew.setCell ⟨b, 0, none⟩ (.int .u64 (x + n)), g15_call ?_, hd.set 0 _, (Fr.drew _ _).trans Fr.setCell⟩
      have hs : st1 w.drew ⟨b, 0, none⟩ (.int .u64 (x + n)) = some (w.drew.setCell ⟨b, 0, none⟩ (.int .u64 (x + n))) := hd.st1 (by simp) rfl
      unfold g15
      simp only [addr_add, Nat.zero_add, c0, c1, hw, h1, h2, hw2, hs, Option.bind_some, asP_pointer, asB_bool, asI_int, asS_string, asSl_slice, asM_map, asTup0, asTup1, asTup2, asTup3, asTup4, asTup5, getD0, getD1, getD2, getD3, getD4, Bool.not_true, Bool.not_false, Bool.false_eq_true, Bool.true_eq_false, ↓reduceIte, decide_true, decide_false, Option.isNone_some, Option.isNone_none, Option.isSome_some, Option.isSome_none, beq_self_eq_true, bne_self_eq_false, Bool.and_true, Bool.true_and, Bool.and_false, Bool.false_and, not_true_eq_false, not_false_eq_true]

theorem ref18 {b : Nat} {x l t : Int} (h : Blk w b [.int .u64 x, .int .u64 l] 40) (hxl : x ≤ l) :
    ∃ w', callF Try.prog 18 #[.pointer (some ⟨b, 0, none⟩), .int .u64 t] w = some (.tuple #[], w') ∧
      Blk w' b [.int .u64 (raiseOf x l t), .int .u64 l] 40 ∧ Fr [b] w w' := by
  have c0 : w.cell? ⟨b, 0, none⟩ = some (.int .u64 x) := h.cell 0
  have c1 : w.cell? ⟨b, 1, none⟩ = some (.int .u64 l) := h.cell 1
  have key : ∀ y, ∃ w', g18_j1 (some ⟨b, 0, none⟩) w y = some (.tuple #[], w') ∧ Blk w' b [.int .u64 (if y > x then y else x), .int .u64 l] 40 ∧ Fr [b] w w' := by
    intro y
    by_cases hy : y > x
    · refine ⟨w.setCell ⟨b, 0, none⟩ (.int .u64 y), ?_, ?_, Fr.setCell⟩
      · have hs : st1 w ⟨b, 0, none⟩ (.int .u64 y) = some (w.setCell ⟨b, 0, none⟩ (.int .u64 y)) := h.st1 (by simp) rfl
        unfold g18_j1
        simp only [c0, hy, hs, Option.bind_some, asP_pointer, asB_bool, asI_int, asS_string, asSl_slice, asM_map, asTup0, asTup1, asTup2, asTup3, asTup4, asTup5, getD0, getD1, getD2, getD3, getD4, Bool.not_true, Bool.not_false, Bool.false_eq_true, Bool.true_eq_false, ↓reduceIte, decide_true, decide_false, Option.isNone_some, Option.isNone_none, Option.isSome_some, Option.isSome_none, beq_self_eq_true, bne_self_eq_false, Bool.and_true, Bool.true_and, Bool.and_false, Bool.false_and, not_true_eq_false, not_false_eq_true]
      · rw [if_pos hy]; exact h.set 0 _
    · refine ⟨w, ?_, ?_, Fr.refl _ _⟩
      · unfold g18_j1
        simp only [c0, hy, Option.bind_some, asP_pointer, asB_bool, asI_int, asS_string, asSl_slice, asM_map, asTup0, asTup1, asTup2, asTup3, asTup4, asTup5, getD0, getD1, getD2, getD3, getD4, Bool.not_true, Bool.not_false, Bool.false_eq_true, Bool.true_eq_false, ↓reduceIte, decide_true, decide_false, Option.isNone_some, Option.isNone_none, Option.isSome_some, Option.isSome_none, beq_self_eq_true, bne_self_eq_false, Bool.and_true, Bool.true_and, Bool.and_false, Bool.false_and, not_true_eq_false, not_false_eq_true]
      · rw [if_neg hy]; exact h
  by_cases ht : t > l
  · obtain ⟨w', e1, b1, f1⟩ := key l
    refine ⟨w', g18_call ?_, ?_, f1⟩
    · unfold g18
      simp only [addr_add, Nat.zero_add, c1, ht, e1, Option.bind_some, asP_pointer, asB_bool, asI_int, asS_string, asSl_slice, asM_map, asTup0, asTup1, asTup2, asTup3, asTup4, asTup5, getD0, getD1, getD2, getD3, getD4, Bool.not_true, Bool.not_false, Bool.false_eq_true, Bool.true_eq_false, ↓reduceIte, decide_true, decide_false, Option.isNone_some, Option.isNone_none, Option.isSome_some, Option.isSome_none, beq_self_eq_true, bne_self_eq_false, Bool.and_true, Bool.true_and, Bool.and_false, Bool.false_and, not_true_eq_false, not_false_eq_true]
    · have : raiseOf x l t = if l > x then l else x := by unfold raiseOf; split <;> split <;> (try split) <;> omega
      rw [this]; exact b1
  · obtain ⟨w', e1, b1, f1⟩ := key t
    refine ⟨w', g18_call ?_, ?_, f1⟩
    · unfold g18
      simp only [addr_add, Nat.zero_add, c1, ht, e1, Option.bind_some, asP_pointer, asB_bool, asI_int, asS_string, asSl_slice, asM_map, asTup0, asTup1, asTup2, asTup3, asTup4, asTup5, getD0, getD1, getD2, getD3, getD4, Bool.not_true, Bool.not_false, Bool.false_eq_true, Bool.true_eq_false, ↓reduceIte, decide_true, decide_false, Option.isNone_some, Option.isNone_none, Option.isSome_some, Option.isSome_none, beq_self_eq_true, bne_self_eq_false, Bool.and_true, Bool.true_and, Bool.and_false, Bool.false_and, not_true_eq_false, not_false_eq_true]
    · have : raiseOf x l t = if t > x then t else x := by unfold raiseOf; split <;> split <;> (try split) <;> omega
      rw [this]; exact b1
end

structure PInv (W : World) (b1 b2 : Nat) (l : Int) (k : Nat) (s : Bool × Int) (w : World) : Prop where
  cnt : s = (false, (k : Int))
  old : Old W w
  at_ : ∃ x, 0 ≤ x ∧ x ≤ l ∧ Ctr w b1 x l ∧ Blk w b2 [.int .u64 x, .int .u64 l] 40
  fr : Fr [] W w

theorem tail16 {W w : World} {b1 b2 k : Nat} {x l : Int} (h0 : 0 ≤ x) (h1 : x ≤ l) (hl : l < 18446744073709551616) (c1 : Ctr w b1 x l) (c2 : Blk w b2 [.int .u64 x, .int .u64 l] 40) (hk : k + 1 < 9223372036854775808)
    (hf : Fr [] W w) : ∃ s' w', g4_j16 (some ⟨b1, 0, none⟩) (some ⟨b2, 0, none⟩) (false, (k : Int)) w = some (.normal, s', w') ∧ PInv W b1 b2 l (k + 1) s' w' := by
  have e1 := left12 c1 h0 h1 hl
  refine ⟨(false, ((k + 1 : Nat) : Int)), w.drew.drew, ?_, rfl, ?_, ⟨x, h0, h1, c1.drew.drew, c2.drew.drew⟩, ?_⟩
  · have d0 : w.drew.drew.cell? ⟨b2, 0, none⟩ = some (.int .u64 x) := c2.drew.drew.cell 0
    have d1 : w.drew.drew.cell? ⟨b2, 1, none⟩ = some (.int .u64 l) := c2.drew.drew.cell 1
    have hw : IntKind.u64.wrap (l - x) = l - x := wrap_u64 (by omega) (by omega)
    have hs := wrap_succ hk
    unfold g4_j16
    simp only [e1, addr_add, Nat.zero_add, d0, d1, hw, hs, Option.bind_some, asP_pointer, asB_bool, asI_int, asS_string, asSl_slice, asM_map, asTup0, asTup1, asTup2, asTup3, asTup4, asTup5, getD0, getD1, getD2, getD3, getD4, Bool.not_true, Bool.not_false, Bool.false_eq_true, Bool.true_eq_false, ↓reduceIte, decide_true, decide_false, Option.isNone_some, Option.isNone_none, Option.isSome_some, Option.isSome_none, beq_self_eq_true, bne_self_eq_false, Bool.and_true, Bool.true_and, Bool.and_false, Bool.false_and, not_true_eq_false, not_false_eq_true]
  · exact (Old.refl W).fr (hf.trans ((Fr.drew _ _).trans (Fr.drew _ _))) (by simp)
  · exact hf.trans ((Fr.drew _ _).trans (Fr.drew _ _))

theorem plays_round {W : World} {b1 b2 : Nat} {l : Int} (hl : l < 18446744073709551616) (hb : W.heap.size ≤ b1) (hb2 : W.heap.size ≤ b2) (hne : b1 ≠ b2)
    {x2 : (Ty.slice (.cons (.int .i64) (.cons (.int .u64) .nil))).Val} (h2 : (Ty.slice (.cons (.int .i64) (.cons (.int .u64) .nil))).At W [.slice x2.1.1 x2.1.2.1 x2.1.2.2] x2)
    (hlen : x2.2.length < 9223372036854775808) (k : Nat) (s : Bool × Int) (w : World) (hk : k < x2.2.length) (hi : PInv W b1 b2 l k s w) :
    ∃ s' w', g4_l8_b x2.1 (some ⟨b1, 0, none⟩) (some ⟨b2, 0, none⟩) s w = some (.normal, s', w') ∧ PInv W b1 b2 l (k + 1) s' w' := by
  obtain ⟨rfl, hold, ⟨x, hx0, hxl, c1, c2⟩, hfr⟩ := hi
  obtain ⟨a, cs, e1, g1, g2, g3⟩ := slice_get (at_old hold _ _ _ h2) hk
  have hll := h2.2.1
  generalize x2.2[k] = el at g3
  obtain ⟨rfl, _, r2⟩ := at_two g3
  obtain ⟨kd, n, _⟩ := el
  simp only at r2 g2 ⊢
  replace r2 := u64_range r2
  have e2 := g2.ldN (n := 2) rfl
  have hc : (k : Int) < (x2.1.2.1 : Int) := by omega
  have e3 : stL (w.alloc (.cells #[.int .i64 0, .int .u64 0] 36)) ⟨w.heap.size, 0, none⟩ [.int .i64 kd, .int .u64 n] 0 = some (w.alloc (.cells #[.int .i64 kd, .int .u64 n] 36)) := stL_new rfl (by simp)
  have hn := Blk.new w [.int .i64 kd, .int .u64 n] 36
  have c1' : Ctr (w.alloc (.cells #[.int .i64 kd, .int .u64 n] 36)) b1 x l := alloc_blk c1
  have c2' : Blk (w.alloc (.cells #[.int .i64 kd, .int .u64 n] 36)) b2 [.int .u64 x, .int .u64 l] 40 := c2.alloc
  have hfr' : Fr [] W (w.alloc (.cells #[.int .i64 kd, .int .u64 n] 36)) := hfr.trans (Fr.alloc _)
  have hb1w : b1 < w.heap.size := lt_of_blk c1
  have hb2w : b2 < w.heap.size := c2.lt
  have d0 := hn.cell 0
  have d1 := hn.cell 1
  change World.cell? (w.alloc (.cells #[.int .i64 kd, .int .u64 n] 36)) _ = some (.int .i64 kd) at d0
  change World.cell? (w.alloc (.cells #[.int .i64 kd, .int .u64 n] 36)) _ = some (.int .u64 n) at d1
  change Blk (w.alloc (.cells #[.int .i64 kd, .int .u64 n] 36)) _ _ _ at hn
  have esz : Ty.size (.cons (.int .i64) (.cons (.int .u64) .nil)) = 2 := rfl
  rw [esz] at e1
  unfold g4_l8_b
  simp only [hc, e1, e2, e3, d0, Option.bind_some, asP_pointer, asB_bool, asI_int, asS_string, asSl_slice, asM_map, asTup0, asTup1, asTup2, asTup3, asTup4, asTup5, getD0, getD1, getD2, getD3, getD4, Bool.not_true, Bool.not_false, Bool.false_eq_true, Bool.true_eq_false, ↓reduceIte, decide_true, decide_false, Option.isNone_some, Option.isNone_none, Option.isSome_some, Option.isSome_none, beq_self_eq_true, bne_self_eq_false, Bool.and_true, Bool.true_and, Bool.and_false, Bool.false_and, not_true_eq_false, not_false_eq_true]
  generalize w.alloc (.cells #[.int .i64 kd, .int .u64 n] 36) = v at *
  have fin : ∀ w', Fr [b1, b2] v w' → Fr [] W w' := fun w' hf => (hfr'.nil.trans hf).mono (by intro y hy hlt; simp at hy; omega)
  by_cases k0 : kd = 0
  · obtain ⟨w1, e4, c3, f1⟩ := block13 (n := n) c1' hx0 hxl hl (by omega) (by omega)
    have c4 : Blk w1 b2 [.int .u64 x, .int .u64 l] 40 := c2'.fr f1 (by simp; omega)
    have hn1 : Blk w1 w.heap.size [.int .i64 kd, .int .u64 n] 36 := hn.fr f1 (by simp; omega)
    have d2 : w1.cell? ⟨w.heap.size, 1, none⟩ = some (.int .u64 n) := hn1.cell 1
    obtain ⟨w2, e5, c5, f2⟩ := ref15 (n := n) c4 hx0 hxl hl (by omega) (by omega)
    have c6 := c3.fr f2 (by simp; omega)
    have hy0 : 0 ≤ (blockOf x l n).2.2 ∧ (blockOf x l n).2.2 ≤ l := by unfold blockOf; split <;> simp <;> omega
    obtain ⟨s', w', e6, h6⟩ := tail16 (k := k) (W := W) hy0.1 hy0.2 hl c6 c5 (by omega) (fin _ ((f1.mono (by intro y hy _; simp at hy; simp [hy])).trans (f2.mono (by intro y hy _; simp at hy; simp [hy]))))
    refine ⟨s', w', ?_, h6⟩
    subst k0
    simp only [addr_add, Nat.zero_add, d1, e4, d2, e5, e6, Option.bind_some, asP_pointer, asB_bool, asI_int, asS_string, asSl_slice, asM_map, asTup0, asTup1, asTup2, asTup3, asTup4, asTup5, getD0, getD1, getD2, getD3, getD4, Bool.not_true, Bool.not_false, Bool.false_eq_true, Bool.true_eq_false, ↓reduceIte, decide_true, decide_false, Option.isNone_some, Option.isNone_none, Option.isSome_some, Option.isSome_none, beq_self_eq_true, bne_self_eq_false, Bool.and_true, Bool.true_and, Bool.and_false, Bool.false_and, not_true_eq_false, not_false_eq_true]
  · have k0' : (kd == 0) = false := by simpa using k0
    by_cases k1 : kd = 1
    · obtain ⟨w1, e4, c3, f1⟩ := next16 c1' hx0 hxl hl
      have c4 : Blk w1 b2 [.int .u64 x, .int .u64 l] 40 := c2'.fr f1 (by simp; omega)
      obtain ⟨w2, e5, c5, f2⟩ := ref15 (n := 1) c4 hx0 hxl hl (by omega) (by omega)
      have c6 := c3.fr f2 (by simp; omega)
      have hy0 : 0 ≤ (blockOf x l 1).2.2 ∧ (blockOf x l 1).2.2 ≤ l := by unfold blockOf; split <;> simp <;> omega
      obtain ⟨s', w', e6, h6⟩ := tail16 (k := k) (W := W) hy0.1 hy0.2 hl c6 c5 (by omega) (fin _ ((f1.mono (by intro y hy _; simp at hy; simp [hy])).trans (f2.mono (by intro y hy _; simp at hy; simp [hy]))))
      refine ⟨s', w', ?_, h6⟩
      subst k1
      simp only [k0', e4, e5, e6, Option.bind_some, asP_pointer, asB_bool, asI_int, asS_string, asSl_slice, asM_map, asTup0, asTup1, asTup2, asTup3, asTup4, asTup5, getD0, getD1, getD2, getD3, getD4, Bool.not_true, Bool.not_false, Bool.false_eq_true, Bool.true_eq_false, ↓reduceIte, decide_true, decide_false, Option.isNone_some, Option.isNone_none, Option.isSome_some, Option.isSome_none, beq_self_eq_true, bne_self_eq_false, Bool.and_true, Bool.true_and, Bool.and_false, Bool.false_and, not_true_eq_false, not_false_eq_true]
    · have k1' : (kd == 1) = false := by simpa using k1
      obtain ⟨w1, e4, c3, f1⟩ := raise17 (t := n) c1'
      have c4 : Blk w1 b2 [.int .u64 x, .int .u64 l] 40 := c2'.fr f1 (by simp; omega)
      have hn1 : Blk w1 w.heap.size [.int .i64 kd, .int .u64 n] 36 := hn.fr f1 (by simp; omega)
      have d2 : w1.cell? ⟨w.heap.size, 1, none⟩ = some (.int .u64 n) := hn1.cell 1
      obtain ⟨w2, e5, c5, f2⟩ := ref18 (t := n) c4 hxl
      have c6 := c3.fr f2 (by simp; omega)
      have hy0 : 0 ≤ raiseOf x l n ∧ raiseOf x l n ≤ l := by
        unfold raiseOf; split
        · omega
        · split <;> omega
      obtain ⟨s', w', e6, h6⟩ := tail16 (k := k) (W := W) hy0.1 hy0.2 hl c6 c5 (by omega) (fin _ ((f1.mono (by intro y hy _; simp at hy; simp [hy])).trans (f2.mono (by intro y hy _; simp at hy; simp [hy]))))
      refine ⟨s', w', ?_, h6⟩
      simp only [k0', k1', addr_add, Nat.zero_add, d1, e4, d2, e5, e6, Option.bind_some, asP_pointer, asB_bool, asI_int, asS_string, asSl_slice, asM_map, asTup0, asTup1, asTup2, asTup3, asTup4, asTup5, getD0, getD1, getD2, getD3, getD4, Bool.not_true, Bool.not_false, Bool.false_eq_true, Bool.true_eq_false, ↓reduceIte, decide_true, decide_false, Option.isNone_some, Option.isNone_none, Option.isSome_some, Option.isSome_none, beq_self_eq_true, bne_self_eq_false, Bool.and_true, Bool.true_and, Bool.and_false, Bool.false_and, not_true_eq_false, not_false_eq_true]

theorem plays_main (W : World) (n0 : Int) (h0 : IntKind.u64.min ≤ n0 ∧ n0 ≤ IntKind.u64.max) (n1 : Int) (h1 : IntKind.u64.min ≤ n1 ∧ n1 ≤ IntKind.u64.max) (x2 : (Ty.slice (.cons (.int .i64) (.cons (.int .u64) .nil))).Val) (h2 : (Ty.slice (.cons (.int .i64) (.cons (.int .u64) .nil))).At W [.slice x2.1.1 x2.1.2.1 x2.1.2.2] x2) :
    ∃ w', callF Try.prog 4 #[.int .u64 n0, .int .u64 n1, .slice x2.1.1 x2.1.2.1 x2.1.2.2] W = some (.bool true, w') ∧ Fr [] W w' := by
  replace h0 := u64_range h0
  replace h1 := u64_range h1
  have hml : maxLen < 9223372036854775808 := by decide
  have hlen : x2.2.length < 9223372036854775808 := by have := h2.2.1; have := h2.2.2.1; have := h2.2.2.2.1; omega
  obtain ⟨w1, e1, c1, f1⟩ := new10 (w := W) n0 n1
  have e2 := ref14 (w := w1) n0 n1
  generalize hbeg : (if n1 < n0 then n1 else n0) = beg at c1 e2
  have hb0 : 0 ≤ beg := by rw [← hbeg]; split <;> omega
  have hbl : beg ≤ n1 := by rw [← hbeg]; split <;> omega
  have c2 := Blk.new w1 [.int .u64 beg, .int .u64 n1] 40
  change Blk (w1.alloc (.cells #[.int .u64 beg, .int .u64 n1] 40)) _ _ _ at c2
  have c1' : Ctr (w1.alloc (.cells #[.int .u64 beg, .int .u64 n1] 40)) W.heap.size beg n1 := alloc_blk c1
  have f2 : Fr [] w1 (w1.alloc (.cells #[.int .u64 beg, .int .u64 n1] 40)) := Fr.alloc _
  have hlt : W.heap.size < w1.heap.size := lt_of_blk c1
  generalize w1.alloc (.cells #[.int .u64 beg, .int .u64 n1] 40) = w2 at *
  obtain ⟨w3, e3, f3⟩ := awake11 (w := w2)
  have c3 := c1'.fr f3 (by simp)
  have c4 := c2.fr f3 (by simp)
  have f4 := (f1.trans f2).trans f3
  obtain ⟨t, w4, e4, i4⟩ := loopS_count (I := PInv W W.heap.size w1.heap.size n1) (n := x2.2.length) (b := g4_l8_b x2.1 (some ⟨W.heap.size, 0, none⟩) (some ⟨w1.heap.size, 0, none⟩))
    (fun k s w hk hi => plays_round h1.2 (Nat.le_refl _) (by omega) (by omega) h2 hlen k s w hk hi)
    (fun s w hi => by
      obtain ⟨rfl, _, _, _⟩ := hi
      have := h2.2.1
      have hc : ¬ ((x2.2.length : Nat) : Int) < (x2.1.2.1 : Int) := by omega
      unfold g4_l8_b
      simp only [hc, Option.bind_some, asP_pointer, asB_bool, asI_int, asS_string, asSl_slice, asM_map, asTup0, asTup1, asTup2, asTup3, asTup4, asTup5, getD0, getD1, getD2, getD3, getD4, Bool.not_true, Bool.not_false, Bool.false_eq_true, Bool.true_eq_false, ↓reduceIte, decide_true, decide_false, Option.isNone_some, Option.isNone_none, Option.isSome_some, Option.isSome_none, beq_self_eq_true, bne_self_eq_false, Bool.and_true, Bool.true_and, Bool.and_false, Bool.false_and, not_true_eq_false, not_false_eq_true])
    (Nat.zero_le _) (s := (false, 0)) (w := w3) ⟨rfl, (Old.refl W).fr f4 (by simp), ⟨beg, hb0, hbl, c3, c4⟩, f4⟩
  refine ⟨w4, g4_call ?_, i4.fr⟩
  unfold g4
  simp only [e1, e2, e3, g4_l8_x0_of e4, g4_l8_x0, Option.bind_some, asP_pointer, asB_bool, asI_int, asS_string, asSl_slice, asM_map, asTup0, asTup1, asTup2, asTup3, asTup4, asTup5, getD0, getD1, getD2, getD3, getD4, Bool.not_true, Bool.not_false, Bool.false_eq_true, Bool.true_eq_false, ↓reduceIte, decide_true, decide_false, Option.isNone_some, Option.isNone_none, Option.isSome_some, Option.isSome_none, beq_self_eq_true, bne_self_eq_false, Bool.and_true, Bool.true_and, Bool.and_false, Bool.false_and, not_true_eq_false, not_false_eq_true]
end Go.Proofs.Ytniibeofggdfoaa
