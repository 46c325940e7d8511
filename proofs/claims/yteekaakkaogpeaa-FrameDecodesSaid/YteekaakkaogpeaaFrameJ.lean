/-
  FrameJ: lemmas on what Go functions of this seat come to (for whatever arguments, as each says). No condition but those that stand in each lemma.
-/
import Derived.Test.YteekaakkaogpeaaFrameI
namespace Go.Proofs.Yteekaakkaogpeaa
open Go Go.Ev Go.Crc
set_option maxRecDepth 100000
set_option linter.unusedVariables false
set_option linter.unusedSimpArgs false
section
variable {w : World}

/-- the document's reader -/
structure RdrD (w : World) (b : Nat) (q : Option Addr × Nat × Nat) (text : List Int) (at_ e : Int) : Prop where
  blk : Blk w b [.slice q.1 q.2.1 q.2.2, .int .i64 at_, .int .i64 e] 64
  rd : Sl8 w q text
  nb : 0 < text.length → b ∉ blkOf q

theorem RdrD.drew {b : Nat} {q : Option Addr × Nat × Nat} {text : List Int} {a e : Int} (h : RdrD w b q text a e) : RdrD w.drew b q text a e := ⟨h.blk, h.rd, h.nb⟩

theorem refd_step {b : Nat} {q : Option Addr × Nat × Nat} {text : List Int} {k i : Nat} {acc : Int} (h : RdrD w b q text (k : Int) 0) (hz : Zs text) (hk : k + 4 ≤ text.length) (hi : i < 4) (hl : text.length ≤ 140737488355328) :
    g28_l12_b (some ⟨b, 0, none⟩) (acc, (i : Int)) w = some (.normal, (IntKind.u32.wrap (IntKind.u32.wrap (256 * acc) + IntKind.u32.wrap text[k + i]), (i : Int) - 1), w.drew) := by
  have d := h.drew
  have c0 : w.drew.cell? ⟨b, 0, none⟩ = some (.slice q.1 q.2.1 q.2.2) := d.blk.cell 0
  have c1 : w.drew.cell? ⟨b, 1, none⟩ = some (.int .i64 (k : Int)) := d.blk.cell 1
  obtain ⟨a, g1, g2⟩ := d.rd.get (i := k + i) (by omega)
  have hw : IntKind.i64.wrap ((k : Int) + (i : Int)) = ((k + i : Nat) : Int) := by rw [wrap_i64 (by omega) (by omega)]; omega
  have hw2 : IntKind.i64.wrap ((i : Int) - 1) = (i : Int) - 1 := wrap_i64 (by omega) (by omega)
  have hc : (i : Int) ≥ 0 := by omega
  unfold g28_l12_b
  simp only [hc, addr_add, Nat.zero_add, c0, c1, hw, g1, g2, hw2, Option.bind_some, asP_pointer, asB_bool, asI_int, asS_string, asSl_slice, asM_map, asTup0, asTup1, asTup2, asTup3, asTup4, asTup5, getD0, getD1, getD2, getD3, getD4, Bool.not_true, Bool.not_false, Bool.false_eq_true, Bool.true_eq_false, ↓reduceIte, decide_true, decide_false, Option.isNone_some, Option.isNone_none, Option.isSome_some, Option.isSome_none, beq_self_eq_true, bne_self_eq_false, Bool.and_true, Bool.true_and, Bool.and_false, Bool.false_and, not_true_eq_false, not_false_eq_true]

theorem fixed28_ok {b : Nat} {q : Option Addr × Nat × Nat} {text : List Int} {k : Nat} (h : RdrD w b q text (k : Int) 0) (hz : Zs text) (hk : k + 4 ≤ text.length) (hl : text.length ≤ 140737488355328) :
    ∃ w', callF Try.prog 28 #[.pointer (some ⟨b, 0, none⟩)] w = some (.int .u32 (un4 (text.getD k 0) (text.getD (k+1) 0) (text.getD (k+2) 0) (text.getD (k+3) 0)), w') ∧ RdrD w' b q text ((k + 4 : Nat) : Int) 0 ∧ Fr [b] w w' := by
  have hql := h.rd.1
  have d1 := h.drew
  have d2 := d1.drew
  have d3 := d2.drew
  have d4 := d3.drew
  have d5 := d4.drew
  have z0 := hz _ (List.getElem_mem (show k < text.length by omega))
  have z1 := hz _ (List.getElem_mem (show k + 1 < text.length by omega))
  have z2 := hz _ (List.getElem_mem (show k + 2 < text.length by omega))
  have z3 := hz _ (List.getElem_mem (show k + 3 < text.length by omega))
  have s3 := refd_step (acc := 0) (i := 3) d1 hz hk (by omega) hl
  have s2 := refd_step (acc := IntKind.u32.wrap (IntKind.u32.wrap (256 * 0) + IntKind.u32.wrap text[k + 3])) (i := 2) d2 hz hk (by omega) hl
  have s1 := refd_step (acc := IntKind.u32.wrap (IntKind.u32.wrap (256 * (IntKind.u32.wrap (IntKind.u32.wrap (256 * 0) + IntKind.u32.wrap text[k + 3]))) + IntKind.u32.wrap text[k + 2])) (i := 1) d3 hz hk (by omega) hl
  have s0 := refd_step (acc := IntKind.u32.wrap (IntKind.u32.wrap (256 * (IntKind.u32.wrap (IntKind.u32.wrap (256 * (IntKind.u32.wrap (IntKind.u32.wrap (256 * 0) + IntKind.u32.wrap text[k + 3]))) + IntKind.u32.wrap text[k + 2]))) + IntKind.u32.wrap text[k + 1])) (i := 0) d4 hz hk (by omega) hl
  have hv : IntKind.u32.wrap (IntKind.u32.wrap (256 * (IntKind.u32.wrap (IntKind.u32.wrap (256 * (IntKind.u32.wrap (IntKind.u32.wrap (256 * (IntKind.u32.wrap (IntKind.u32.wrap (256 * 0) + IntKind.u32.wrap text[k + 3]))) + IntKind.u32.wrap text[k + 2]))) + IntKind.u32.wrap text[k + 1]))) + IntKind.u32.wrap text[k + 0]) =
      un4 (text.getD k 0) (text.getD (k+1) 0) (text.getD (k+2) 0) (text.getD (k+3) 0) := by
    rw [getD_lt (by omega), getD_lt (by omega), getD_lt (by omega), getD_lt (by omega)]
    simp only [w32, un4, Nat.add_zero]
    omega
  have hend : g28_l12_b (some ⟨b, 0, none⟩) (un4 (text.getD k 0) (text.getD (k+1) 0) (text.getD (k+2) 0) (text.getD (k+3) 0), ((0 : Nat) : Int) - 1) w.drew.drew.drew.drew.drew = some (.exit 0, (un4 (text.getD k 0) (text.getD (k+1) 0) (text.getD (k+2) 0) (text.getD (k+3) 0), ((0 : Nat) : Int) - 1), w.drew.drew.drew.drew.drew) := by
    have hc : ¬ ((0 : Nat) : Int) - 1 ≥ 0 := by decide
    unfold g28_l12_b
    simp only [hc, Option.bind_some, asP_pointer, asB_bool, asI_int, asS_string, asSl_slice, asM_map, asTup0, asTup1, asTup2, asTup3, asTup4, asTup5, getD0, getD1, getD2, getD3, getD4, Bool.not_true, Bool.not_false, Bool.false_eq_true, Bool.true_eq_false, ↓reduceIte, decide_true, decide_false, Option.isNone_some, Option.isNone_none, Option.isSome_some, Option.isSome_none, beq_self_eq_true, bne_self_eq_false, Bool.and_true, Bool.true_and, Bool.and_false, Bool.false_and, not_true_eq_false, not_false_eq_true]
  rw [hv] at s0
  have hloop := loopS_next s3 (loopS_next s2 (loopS_next s1 (loopS_next s0 (loopS_out (by simp) hend))))
  have c2 : w.cell? ⟨b, 2, none⟩ = some (.int .i64 0) := h.blk.cell 2
  have c0 : w.drew.cell? ⟨b, 0, none⟩ = some (.slice q.1 q.2.1 q.2.2) := d1.blk.cell 0
  have c1 : w.drew.cell? ⟨b, 1, none⟩ = some (.int .i64 (k : Int)) := d1.blk.cell 1
  have c5 : w.drew.drew.drew.drew.drew.cell? ⟨b, 1, none⟩ = some (.int .i64 (k : Int)) := d5.blk.cell 1
  have hw : IntKind.i64.wrap ((k : Int) + 4) = ((k + 4 : Nat) : Int) := by rw [wrap_i64 (by omega) (by omega)]; omega
  have hng : ¬ ((k + 4 : Nat) : Int) > (q.2.1 : Int) := by omega
  have hst : st1 w.drew.drew.drew.drew.drew ⟨b, 1, none⟩ (.int .i64 ((k + 4 : Nat) : Int)) = some (w.drew.drew.drew.drew.drew.setCell ⟨b, 1, none⟩ (.int .i64 ((k + 4 : Nat) : Int))) := d5.blk.st1 (by simp) rfl
  have f5 : Fr [b] w.drew.drew.drew.drew.drew (w.drew.drew.drew.drew.drew.setCell ⟨b, 1, none⟩ (.int .i64 ((k + 4 : Nat) : Int))) := Fr.setCell
  refine ⟨w.drew.drew.drew.drew.drew.setCell ⟨b, 1, none⟩ (.int .i64 ((k + 4 : Nat) : Int)), g28_call ?_, ⟨d5.blk.set 1 _, SlI.fr3 (w := w.drew.drew.drew.drew.drew) h.rd f5 (by intro h0 y hy hm; simp at hm; subst hm; exact h.nb (by omega) hy), h.nb⟩, ?_⟩
  · have hl2 := g28_l12_x0_of hloop
    have e3 : ((3 : Nat) : Int) = 3 := rfl
    rw [e3] at hl2
    unfold g28
    simp only [addr_add, Nat.zero_add, c2, c0, c1, hw, hng, hl2, Option.bind_some, asP_pointer, asB_bool, asI_int, asS_string, asSl_slice, asM_map, asTup0, asTup1, asTup2, asTup3, asTup4, asTup5, getD0, getD1, getD2, getD3, getD4, Bool.not_true, Bool.not_false, Bool.false_eq_true, Bool.true_eq_false, ↓reduceIte, decide_true, decide_false, Option.isNone_some, Option.isNone_none, Option.isSome_some, Option.isSome_none, beq_self_eq_true, bne_self_eq_false, Bool.and_true, Bool.true_and, Bool.and_false, Bool.false_and, not_true_eq_false, not_false_eq_true]
    unfold g28_l12_x0
    simp only [addr_add, Nat.zero_add, c5, hw, hst, Option.bind_some, asP_pointer, asB_bool, asI_int, asS_string, asSl_slice, asM_map, asTup0, asTup1, asTup2, asTup3, asTup4, asTup5, getD0, getD1, getD2, getD3, getD4, Bool.not_true, Bool.not_false, Bool.false_eq_true, Bool.true_eq_false, ↓reduceIte, decide_true, decide_false, Option.isNone_some, Option.isNone_none, Option.isSome_some, Option.isSome_none, beq_self_eq_true, bne_self_eq_false, Bool.and_true, Bool.true_and, Bool.and_false, Bool.false_and, not_true_eq_false, not_false_eq_true]
  · exact (((((Fr.drew _ _).trans (Fr.drew _ _)).trans (Fr.drew _ _)).trans (Fr.drew _ _)).trans (Fr.drew _ _)).trans f5

theorem fixed28_end {b : Nat} {q : Option Addr × Nat × Nat} {text : List Int} {k : Nat} (h : RdrD w b q text (k : Int) 0) (hk : text.length < k + 4) (hkl : k ≤ text.length) (hl : text.length ≤ 140737488355328) :
    ∃ w', callF Try.prog 28 #[.pointer (some ⟨b, 0, none⟩)] w = some (.int .u32 0, w') ∧ RdrD w' b q text (k : Int) 6 ∧ Fr [b] w w' := by
  have hql := h.rd.1
  have d1 := h.drew
  have c2 : w.cell? ⟨b, 2, none⟩ = some (.int .i64 0) := h.blk.cell 2
  have c0 : w.drew.cell? ⟨b, 0, none⟩ = some (.slice q.1 q.2.1 q.2.2) := d1.blk.cell 0
  have c1 : w.drew.cell? ⟨b, 1, none⟩ = some (.int .i64 (k : Int)) := d1.blk.cell 1
  have c3 : w.drew.cell? ⟨b, 2, none⟩ = some (.int .i64 0) := d1.blk.cell 2
  have hw : IntKind.i64.wrap ((k : Int) + 4) = ((k + 4 : Nat) : Int) := by rw [wrap_i64 (by omega) (by omega)]; omega
  have hng : ((k + 4 : Nat) : Int) > (q.2.1 : Int) := by omega
  have hst : st1 w.drew ⟨b, 2, none⟩ (.int .i64 6) = some (w.drew.setCell ⟨b, 2, none⟩ (.int .i64 6)) := d1.blk.st1 (by simp) rfl
  have f3 : Fr [b] w.drew (w.drew.setCell ⟨b, 2, none⟩ (.int .i64 6)) := Fr.setCell
  have e33 : callF Try.prog 33 #[.pointer (some ⟨b, 0, none⟩), .int .i64 6] w.drew = some (.tuple #[], w.drew.setCell ⟨b, 2, none⟩ (.int .i64 6)) := by
    refine g33_call ?_
    unfold g33
    simp only [addr_add, Nat.zero_add, c3, hst, Option.bind_some, asP_pointer, asB_bool, asI_int, asS_string, asSl_slice, asM_map, asTup0, asTup1, asTup2, asTup3, asTup4, asTup5, getD0, getD1, getD2, getD3, getD4, Bool.not_true, Bool.not_false, Bool.false_eq_true, Bool.true_eq_false, ↓reduceIte, decide_true, decide_false, Option.isNone_some, Option.isNone_none, Option.isSome_some, Option.isSome_none, beq_self_eq_true, bne_self_eq_false, Bool.and_true, Bool.true_and, Bool.and_false, Bool.false_and, not_true_eq_false, not_false_eq_true]
  refine ⟨w.drew.setCell ⟨b, 2, none⟩ (.int .i64 6), g28_call ?_, ⟨d1.blk.set 2 _, SlI.fr3 (w := w.drew) h.rd f3 (by intro h0 y hy hm; simp at hm; subst hm; exact h.nb (by omega) hy), h.nb⟩, (Fr.drew _ _).trans f3⟩
  unfold g28
  simp only [addr_add, Nat.zero_add, c2, c0, c1, hw, hng, e33, Option.bind_some, asP_pointer, asB_bool, asI_int, asS_string, asSl_slice, asM_map, asTup0, asTup1, asTup2, asTup3, asTup4, asTup5, getD0, getD1, getD2, getD3, getD4, Bool.not_true, Bool.not_false, Bool.false_eq_true, Bool.true_eq_false, ↓reduceIte, decide_true, decide_false, Option.isNone_some, Option.isNone_none, Option.isSome_some, Option.isSome_none, beq_self_eq_true, bne_self_eq_false, Bool.and_true, Bool.true_and, Bool.and_false, Bool.false_and, not_true_eq_false, not_false_eq_true]

theorem fixed28_bad {b : Nat} {q : Option Addr × Nat × Nat} {text : List Int} {k e : Int} (h : RdrD w b q text k e) (he : e ≠ 0) :
    callF Try.prog 28 #[.pointer (some ⟨b, 0, none⟩)] w = some (.int .u32 0, w) := by
  have c2 : w.cell? ⟨b, 2, none⟩ = some (.int .i64 e) := h.blk.cell 2
  have hne : (e != 0) = true := by simpa using he
  refine g28_call ?_
  unfold g28
  simp only [addr_add, Nat.zero_add, c2, hne, Option.bind_some, asP_pointer, asB_bool, asI_int, asS_string, asSl_slice, asM_map, asTup0, asTup1, asTup2, asTup3, asTup4, asTup5, getD0, getD1, getD2, getD3, getD4, Bool.not_true, Bool.not_false, Bool.false_eq_true, Bool.true_eq_false, ↓reduceIte, decide_true, decide_false, Option.isNone_some, Option.isNone_none, Option.isSome_some, Option.isSome_none, beq_self_eq_true, bne_self_eq_false, Bool.and_true, Bool.true_and, Bool.and_false, Bool.false_and, not_true_eq_false, not_false_eq_true]
end
end Go.Proofs.Yteekaakkaogpeaa
