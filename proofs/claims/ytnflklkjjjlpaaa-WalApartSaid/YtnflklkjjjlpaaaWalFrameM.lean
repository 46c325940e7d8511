/-
  WalFrameM: lemmas on what Go functions of this seat come to (for whatever arguments, as each says). No condition but those that stand in each lemma.
-/
import Derived.Test.YtnflklkjjjlpaaaWalFrameI
import Derived.Test.YtnflklkjjjlpaaaLb6
namespace Go.Proofs.Ytnflklkjjjlpaaa
open Go Go.Ev Go.Crc
set_option maxRecDepth 100000
set_option linter.unusedVariables false
set_option linter.unusedSimpArgs false
section
variable {w : World}

/-- the document's reader -/
structure RdrD (w : World) (b : Nat) (q : Option Addr × Nat × Nat) (text : List Int) (at_ e : Int) : Prop where
  blk : Blk w b [.slice q.1 q.2.1 q.2.2, .int .i64 at_, .int .i64 e] 94
  rd : Sl8 w q text
  nb : 0 < text.length → b ∉ blkOf q

theorem RdrD.drew {b : Nat} {q : Option Addr × Nat × Nat} {text : List Int} {a e : Int} (h : RdrD w b q text a e) : RdrD w.drew b q text a e := ⟨h.blk, h.rd, h.nb⟩

theorem refd_step {b : Nat} {q : Option Addr × Nat × Nat} {text : List Int} {k i : Nat} {acc : Int} (h : RdrD w b q text (k : Int) 0) (hz : Zs text) (hk : k + 4 ≤ text.length) (hi : i < 4) (hl : text.length ≤ 1073741824) :
    g47_l12_b (some ⟨b, 0, none⟩) (acc, (i : Int)) w = some (.normal, (IntKind.u32.wrap (IntKind.u32.wrap (256 * acc) + IntKind.u32.wrap text[k + i]), (i : Int) - 1), w.drew) := by
  have d := h.drew
  have c0 : w.drew.cell? ⟨b, 0, none⟩ = some (.slice q.1 q.2.1 q.2.2) := d.blk.cell 0
  have c1 : w.drew.cell? ⟨b, 1, none⟩ = some (.int .i64 (k : Int)) := d.blk.cell 1
  obtain ⟨a, g1, g2⟩ := d.rd.get (i := k + i) (by omega)
  have hw : IntKind.i64.wrap ((k : Int) + (i : Int)) = ((k + i : Nat) : Int) := by rw [wrap_i64 (by omega) (by omega)]; omega
  have hw2 : IntKind.i64.wrap ((i : Int) - 1) = (i : Int) - 1 := wrap_i64 (by omega) (by omega)
  have hc : (i : Int) ≥ 0 := by omega
  unfold g47_l12_b
  simp only [hc, addr_add, Nat.zero_add, c0, c1, hw, g1, g2, hw2, Option.bind_some, asP_pointer, asB_bool, asI_int, asS_string, asSl_slice, asM_map, asTup0, asTup1, asTup2, asTup3, asTup4, asTup5, getD0, getD1, getD2, getD3, getD4, Bool.not_true, Bool.not_false, Bool.false_eq_true, Bool.true_eq_false, ↓reduceIte, decide_true, decide_false, Option.isNone_some, Option.isNone_none, Option.isSome_some, Option.isSome_none, beq_self_eq_true, bne_self_eq_false, Bool.and_true, Bool.true_and, Bool.and_false, Bool.false_and, not_true_eq_false, not_false_eq_true]

theorem fixed28_ok {b : Nat} {q : Option Addr × Nat × Nat} {text : List Int} {k : Nat} (h : RdrD w b q text (k : Int) 0) (hz : Zs text) (hk : k + 4 ≤ text.length) (hl : text.length ≤ 1073741824) :
    ∃ w', callF Try.prog 47 #[.pointer (some ⟨b, 0, none⟩)] w = some (.int .u32 (un4 (text.getD k 0) (text.getD (k+1) 0) (text.getD (k+2) 0) (text.getD (k+3) 0)), w') ∧ RdrD w' b q text ((k + 4 : Nat) : Int) 0 ∧ Fr [b] w w' := by
  have hql := h.rd.1
  have d1 := h.drew
  have d2 := d1.drew
  have d3 := d2.drew
  have d4 := d3.drew
  have d5 := d4.drew
  have z0 := hz _ (List.getElem_mem (show k < text.length by omega))
  have z1 := hz _ (List.getElem_mem (show k + 1 < text.length by omega))
  have z2 := hz _ (List.getElem_mem (show k + 2 < text.length by omega))
  have z3 := hz _ (List.getElem_mem (show k + 3 < text.length by omega))
  have s3 := refd_step (acc := 0) (i := 3) d1 hz hk (by omega) hl
  have s2 := refd_step (acc := IntKind.u32.wrap (IntKind.u32.wrap (256 * 0) + IntKind.u32.wrap text[k + 3])) (i := 2) d2 hz hk (by omega) hl
  have s1 := refd_step (acc := IntKind.u32.wrap (IntKind.u32.wrap (256 * (IntKind.u32.wrap (IntKind.u32.wrap (256 * 0) + IntKind.u32.wrap text[k + 3]))) + IntKind.u32.wrap text[k + 2])) (i := 1) d3 hz hk (by omega) hl
  have s0 := refd_step (acc := IntKind.u32.wrap (IntKind.u32.wrap (256 * (IntKind.u32.wrap (IntKind.u32.wrap (256 * (IntKind.u32.wrap (IntKind.u32.wrap (256 * 0) + IntKind.u32.wrap text[k + 3]))) + IntKind.u32.wrap text[k + 2]))) + IntKind.u32.wrap text[k + 1])) (i := 0) d4 hz hk (by omega) hl
  have hv : IntKind.u32.wrap (IntKind.u32.wrap (256 * (IntKind.u32.wrap (IntKind.u32.wrap (256 * (IntKind.u32.wrap (IntKind.u32.wrap (256 * (IntKind.u32.wrap (IntKind.u32.wrap (256 * 0) + IntKind.u32.wrap text[k + 3]))) + IntKind.u32.wrap text[k + 2]))) + IntKind.u32.wrap text[k + 1]))) + IntKind.u32.wrap text[k + 0]) =
      un4 (text.getD k 0) (text.getD (k+1) 0) (text.getD (k+2) 0) (text.getD (k+3) 0) := by
    rw [getD_lt (by omega), getD_lt (by omega), getD_lt (by omega), getD_lt (by omega)]
    simp only [w32, un4, Nat.add_zero]
    omega
  have hend : g47_l12_b (some ⟨b, 0, none⟩) (un4 (text.getD k 0) (text.getD (k+1) 0) (text.getD (k+2) 0) (text.getD (k+3) 0), ((0 : Nat) : Int) - 1) w.drew.drew.drew.drew.drew = some (.exit 0, (un4 (text.getD k 0) (text.getD (k+1) 0) (text.getD (k+2) 0) (text.getD (k+3) 0), ((0 : Nat) : Int) - 1), w.drew.drew.drew.drew.drew) := by
    have hc : ¬ ((0 : Nat) : Int) - 1 ≥ 0 := by decide
    unfold g47_l12_b
    simp only [hc, Option.bind_some, asP_pointer, asB_bool, asI_int, asS_string, asSl_slice, asM_map, asTup0, asTup1, asTup2, asTup3, asTup4, asTup5, getD0, getD1, getD2, getD3, getD4, Bool.not_true, Bool.not_false, Bool.false_eq_true, Bool.true_eq_false, ↓reduceIte, decide_true, decide_false, Option.isNone_some, Option.isNone_none, Option.isSome_some, Option.isSome_none, beq_self_eq_true, bne_self_eq_false, Bool.and_true, Bool.true_and, Bool.and_false, Bool.false_and, not_true_eq_false, not_false_eq_true]
  rw [hv] at s0
  have hloop := loopS_next s3 (loopS_next s2 (loopS_next s1 (loopS_next s0 (loopS_out (by simp) hend))))
  have c2 : w.cell? ⟨b, 2, none⟩ = some (.int .i64 0) := h.blk.cell 2
  have c0 : w.drew.cell? ⟨b, 0, none⟩ = some (.slice q.1 q.2.1 q.2.2) := d1.blk.cell 0
  have c1 : w.drew.cell? ⟨b, 1, none⟩ = some (.int .i64 (k : Int)) := d1.blk.cell 1
  have c5 : w.drew.drew.drew.drew.drew.cell? ⟨b, 1, none⟩ = some (.int .i64 (k : Int)) := d5.blk.cell 1
  have hw : IntKind.i64.wrap ((k : Int) + 4) = ((k + 4 : Nat) : Int) := by rw [wrap_i64 (by omega) (by omega)]; omega
  have hng : ¬ ((k + 4 : Nat) : Int) > (q.2.1 : Int) := by omega
  have hst : st1 w.drew.drew.drew.drew.drew ⟨b, 1, none⟩ (.int .i64 ((k + 4 : Nat) : Int)) = some (w.drew.drew.drew.drew.drew.setCell ⟨b, 1, none⟩ (.int .i64 ((k + 4 : Nat) : Int))) := d5.blk.st1 (by simp) rfl
  have f5 : Fr [b] w.drew.drew.drew.drew.drew (w.drew.drew.drew.drew.drew.setCell ⟨b, 1, none⟩ (.int .i64 ((k + 4 : Nat) : Int))) := Fr.setCell
  refine ⟨w.drew.drew.drew.drew.drew.setCell ⟨b, 1, none⟩ (.int .i64 ((k + 4 : Nat) : Int)), g47_call ?_, ⟨d5.blk.set 1 _, SlI.fr3 (w := w.drew.drew.drew.drew.drew) h.rd f5 (by intro h0 y hy hm; simp at hm; subst hm; exact h.nb (by omega) hy), h.nb⟩, ?_⟩
  · have hl2 := g47_l12_x0_of hloop
    have e3 : ((3 : Nat) : Int) = 3 := rfl
    rw [e3] at hl2
    unfold g47
    simp only [addr_add, Nat.zero_add, c2, c0, c1, hw, hng, hl2, Option.bind_some, asP_pointer, asB_bool, asI_int, asS_string, asSl_slice, asM_map, asTup0, asTup1, asTup2, asTup3, asTup4, asTup5, getD0, getD1, getD2, getD3, getD4, Bool.not_true, Bool.not_false, Bool.false_eq_true, Bool.true_eq_false, ↓reduceIte, decide_true, decide_false, Option.isNone_some, Option.isNone_none, Option.isSome_some, Option.isSome_none, beq_self_eq_true, bne_self_eq_false, Bool.and_true, Bool.true_and, Bool.and_false, Bool.false_and, not_true_eq_false, not_false_eq_true]
    unfold g47_l12_x0
    simp only [addr_add, Nat.zero_add, c5, hw, hst, Option.bind_some, asP_pointer, asB_bool, asI_int, asS_string, asSl_slice, asM_map, asTup0, asTup1, asTup2, asTup3, asTup4, asTup5, getD0, getD1, getD2, getD3, getD4, Bool.not_true, Bool.not_false, Bool.false_eq_true, Bool.true_eq_false, ↓reduceIte, decide_true, decide_false, Option.isNone_some, Option.isNone_none, Option.isSome_some, Option.isSome_none, beq_self_eq_true, bne_self_eq_false, Bool.and_true, Bool.true_and, Bool.and_false, Bool.false_and, not_true_eq_false, not_false_eq_true]
  · exact (((((Fr.drew _ _).trans (Fr.drew _ _)).trans (Fr.drew _ _)).trans (Fr.drew _ _)).trans (Fr.drew _ _)).trans f5

theorem fixed28_end {b : Nat} {q : Option Addr × Nat × Nat} {text : List Int} {k : Nat} (h : RdrD w b q text (k : Int) 0) (hk : text.length < k + 4) (hkl : k ≤ text.length) (hl : text.length ≤ 1073741824) :
    ∃ w', callF Try.prog 47 #[.pointer (some ⟨b, 0, none⟩)] w = some (.int .u32 0, w') ∧ RdrD w' b q text (k : Int) 6 ∧ Fr [b] w w' := by
  have hql := h.rd.1
  have d1 := h.drew
  have c2 : w.cell? ⟨b, 2, none⟩ = some (.int .i64 0) := h.blk.cell 2
  have c0 : w.drew.cell? ⟨b, 0, none⟩ = some (.slice q.1 q.2.1 q.2.2) := d1.blk.cell 0
  have c1 : w.drew.cell? ⟨b, 1, none⟩ = some (.int .i64 (k : Int)) := d1.blk.cell 1
  have c3 : w.drew.cell? ⟨b, 2, none⟩ = some (.int .i64 0) := d1.blk.cell 2
  have hw : IntKind.i64.wrap ((k : Int) + 4) = ((k + 4 : Nat) : Int) := by rw [wrap_i64 (by omega) (by omega)]; omega
  have hng : ((k + 4 : Nat) : Int) > (q.2.1 : Int) := by omega
  have hst : st1 w.drew ⟨b, 2, none⟩ (.int .i64 6) = some (w.drew.setCell ⟨b, 2, none⟩ (.int .i64 6)) := d1.blk.st1 (by simp) rfl
  have f3 : Fr [b] w.drew (w.drew.setCell ⟨b, 2, none⟩ (.int .i64 6)) := Fr.setCell
  have e33 : callF Try.prog 52 #[.pointer (some ⟨b, 0, none⟩), .int .i64 6] w.drew = some (.tuple #[], w.drew.setCell ⟨b, 2, none⟩ (.int .i64 6)) := by
    refine g52_call ?_
    unfold g52
    simp only [addr_add, Nat.zero_add, c3, hst, Option.bind_some, asP_pointer, asB_bool, asI_int, asS_string, asSl_slice, asM_map, asTup0, asTup1, asTup2, asTup3, asTup4, asTup5, getD0, getD1, getD2, getD3, getD4, Bool.not_true, Bool.not_false, Bool.false_eq_true, Bool.true_eq_false, ↓reduceIte, decide_true, decide_false, Option.isNone_some, Option.isNone_none, Option.isSome_some, Option.isSome_none, beq_self_eq_true, bne_self_eq_false, Bool.and_true, Bool.true_and, Bool.and_false, Bool.false_and, not_true_eq_false, not_false_eq_true]
  refine ⟨w.drew.setCell ⟨b, 2, none⟩ (.int .i64 6), g47_call ?_, ⟨d1.blk.set 2 _, SlI.fr3 (w := w.drew) h.rd f3 (by intro h0 y hy hm; simp at hm; subst hm; exact h.nb (by omega) hy), h.nb⟩, (Fr.drew _ _).trans f3⟩
  unfold g47
  simp only [addr_add, Nat.zero_add, c2, c0, c1, hw, hng, e33, Option.bind_some, asP_pointer, asB_bool, asI_int, asS_string, asSl_slice, asM_map, asTup0, asTup1, asTup2, asTup3, asTup4, asTup5, getD0, getD1, getD2, getD3, getD4, Bool.not_true, Bool.not_false, Bool.false_eq_true, Bool.true_eq_false, ↓reduceIte, decide_true, decide_false, Option.isNone_some, Option.isNone_none, Option.isSome_some, Option.isSome_none, beq_self_eq_true, bne_self_eq_false, Bool.and_true, Bool.true_and, Bool.and_false, Bool.false_and, not_true_eq_false, not_false_eq_true]

theorem fixed28_bad {b : Nat} {q : Option Addr × Nat × Nat} {text : List Int} {k e : Int} (h : RdrD w b q text k e) (he : e ≠ 0) :
    callF Try.prog 47 #[.pointer (some ⟨b, 0, none⟩)] w = some (.int .u32 0, w) := by
  have c2 : w.cell? ⟨b, 2, none⟩ = some (.int .i64 e) := h.blk.cell 2
  have hne : (e != 0) = true := by simpa using he
  refine g47_call ?_
  unfold g47
  simp only [addr_add, Nat.zero_add, c2, hne, Option.bind_some, asP_pointer, asB_bool, asI_int, asS_string, asSl_slice, asM_map, asTup0, asTup1, asTup2, asTup3, asTup4, asTup5, getD0, getD1, getD2, getD3, getD4, Bool.not_true, Bool.not_false, Bool.false_eq_true, Bool.true_eq_false, ↓reduceIte, decide_true, decide_false, Option.isNone_some, Option.isNone_none, Option.isSome_some, Option.isSome_none, beq_self_eq_true, bne_self_eq_false, Bool.and_true, Bool.true_and, Bool.and_false, Bool.false_and, not_true_eq_false, not_false_eq_true]
end
end Go.Proofs.Ytnflklkjjjlpaaa

namespace Go.Proofs.Ytnflklkjjjlpaaa
open Go Go.Ev Go.Crc
set_option maxRecDepth 100000
set_option linter.unusedVariables false
set_option linter.unusedSimpArgs false
section
variable {w : World}

theorem getD_drop {bs : List Int} {k i : Nat} : (bs.drop k).getD i 0 = bs.getD (k + i) 0 := by simp [List.getD]

/-- where the document's decoding ends -/
def toD (a : Nat) (d : List Int × Nat × Int) : Int := if d.2.2 = 0 then ((a + d.2.1 : Nat) : Int) else 0

theorem docdec15 {u : Option Addr × Nat × Nat} {bs : List Int} {a : Nat} (hu : Sl8 w u bs) (hz : Zs bs) (hcap : u.2.1 ≤ u.2.2) (ha : a ≤ bs.length) (hl : bs.length ≤ 1073741824) :
    ∃ v' w', callF Try.prog 38 #[.slice u.1 u.2.1 u.2.2, .int .i64 (a : Int)] w = some (.tuple #[.slice v'.1 v'.2.1 v'.2.2, .int .i64 (toD a (dec (bs.drop a))), .int .i64 (dec (bs.drop a)).2.2], w') ∧
      Sl8 w' v' (dec (bs.drop a)).1 ∧ v'.2.1 ≤ v'.2.2 ∧ Fr [] w w' ∧ (∀ y ∈ blkOf v', y ∈ blkOf u) := by
  have hul := hu.1
  have hlen : (bs.drop a).length = bs.length - a := List.length_drop
  have f1 : Fr [] w (w.alloc (.cells #[.slice u.1 u.2.1 u.2.2, .int .i64 (a : Int), .int .i64 0] 94)) := Fr.alloc _
  have hb := Blk.new w [.slice u.1 u.2.1 u.2.2, .int .i64 (a : Int), .int .i64 0] 94
  have r1 : RdrD (w.alloc (.cells #[.slice u.1 u.2.1 u.2.2, .int .i64 (a : Int), .int .i64 0] 94)) w.heap.size u bs (a : Int) 0 := ⟨hb, hu.fr2 f1 (by simp), fun h0 hm => by
    obtain ⟨b, off, h1, h2, _⟩ := hu.2 (by omega)
    simp [blkOf, h1] at hm; omega⟩
  have hsz : (w.alloc (.cells #[.slice u.1 u.2.1 u.2.2, .int .i64 (a : Int), .int .i64 0] 94)).heap.size = w.heap.size + 1 := Array.size_push _
  generalize hw1 : w.alloc (.cells #[.slice u.1 u.2.1 u.2.2, .int .i64 (a : Int), .int .i64 0] 94) = w1 at f1 r1 hsz
  have nilS : ∀ x : World, Sl8 x (none, 0, 0) [] := fun x => ⟨rfl, fun h => absurd h (by decide)⟩
  have h60 : ((6 : Int) != 0) = true := by decide
  by_cases h8 : (bs.drop a).length < 8
  · have hdec : dec (bs.drop a) = ([], 0, 6) := by unfold dec; rw [if_pos h8]
    rw [hdec]
    have short : ∃ n s w2 w3, callF Try.prog 47 #[.pointer (some ⟨w.heap.size, 0, none⟩)] w1 = some (.int .u32 n, w2) ∧ callF Try.prog 47 #[.pointer (some ⟨w.heap.size, 0, none⟩)] w2 = some (.int .u32 s, w3) ∧
        w3.cell? ⟨w.heap.size, 2, none⟩ = some (.int .i64 6) ∧ Fr [w.heap.size] w1 w3 := by
      by_cases h4 : bs.length < a + 4
      · obtain ⟨w2, e2, r2, f2⟩ := fixed28_end r1 h4 ha hl
        have e3 := fixed28_bad r2 (by decide)
        exact ⟨0, 0, w2, w2, e2, e3, r2.blk.cell 2, f2⟩
      · obtain ⟨w2, e2, r2, f2⟩ := fixed28_ok r1 hz (by omega) hl
        obtain ⟨w3, e3, r3, f3⟩ := fixed28_end r2 (by omega) (by omega) hl
        exact ⟨_, 0, w2, w3, e2, e3, r3.blk.cell 2, (Fr.mono (Fr.app f2 f3) (by have z0_ := Fr.size f2; have z1_ := Fr.size f3; intro y_ hy_ hl_; grind [blkOf]))⟩
    obtain ⟨n, s, w2, w3, e2, e3, c3, f3⟩ := short
    refine ⟨(none, 0, 0), w3, g38_call ?_, nilS _, Nat.le_refl _, (Fr.mono (Fr.app f1 f3) (by have z0_ := Fr.size f1; have z1_ := Fr.size f3; intro y_ hy_ hl_; grind [blkOf])), by simp [blkOf]⟩
    unfold g38
    simp only [hw1, e2, e3, addr_add, Nat.zero_add, c3, h60, Option.bind_some, asP_pointer, asB_bool, asI_int, asS_string, asSl_slice, asM_map, asTup0, asTup1, asTup2, asTup3, asTup4, asTup5, getD0, getD1, getD2, getD3, getD4, Bool.not_true, Bool.not_false, Bool.false_eq_true, Bool.true_eq_false, ↓reduceIte, decide_true, decide_false, Option.isNone_some, Option.isNone_none, Option.isSome_some, Option.isSome_none, beq_self_eq_true, bne_self_eq_false, Bool.and_true, Bool.true_and, Bool.and_false, Bool.false_and, not_true_eq_false, not_false_eq_true]
    all_goals rfl
  · obtain ⟨w2, e2, r2, f2⟩ := fixed28_ok r1 hz (by omega) hl
    obtain ⟨w3, e3, r3, f3⟩ := fixed28_ok r2 hz (by omega) hl
    have d0 := @getD_drop bs a 0
    have d1 := @getD_drop bs a 1
    have d2 := @getD_drop bs a 2
    have d3 := @getD_drop bs a 3
    have d4 := @getD_drop bs a 4
    have d5 := @getD_drop bs a 5
    have d6 := @getD_drop bs a 6
    have d7 := @getD_drop bs a 7
    rw [Nat.add_zero] at d0
    rw [← d0, ← d1, ← d2, ← d3] at e2
    rw [show a + 4 + 1 = a + 5 from rfl, show a + 4 + 2 = a + 6 from rfl, show a + 4 + 3 = a + 7 from rfl, ← d4, ← d5, ← d6, ← d7] at e3
    have hz' : Zs (bs.drop a) := fun z hm => hz z (List.mem_of_mem_drop hm)
    generalize hn : un4 ((bs.drop a).getD 0 0) ((bs.drop a).getD 1 0) ((bs.drop a).getD 2 0) ((bs.drop a).getD 3 0) = n at e2
    generalize hs : un4 ((bs.drop a).getD 4 0) ((bs.drop a).getD 5 0) ((bs.drop a).getD 6 0) ((bs.drop a).getD 7 0) = s at e3
    have hn0 : 0 ≤ n ∧ n < 4294967296 := by
      have a := getD_zs hz' 0; have b := getD_zs hz' 1; have c := getD_zs hz' 2; have d := getD_zs hz' 3
      rw [← hn]; unfold un4; omega
    have c2 : w3.cell? ⟨w.heap.size, 2, none⟩ = some (.int .i64 0) := r3.blk.cell 2
    have c1 : w3.cell? ⟨w.heap.size, 1, none⟩ = some (.int .i64 ((a + 4 + 4 : Nat) : Int)) := r3.blk.cell 1
    have c1' : w3.drew.cell? ⟨w.heap.size, 1, none⟩ = some (.int .i64 ((a + 4 + 4 : Nat) : Int)) := r3.blk.cell 1
    have F3 : Fr [] w w3 := (Fr.mono (Fr.app (Fr.app f1 f2) f3) (by have z0_ := Fr.size f1; have z1_ := Fr.size f2; have z2_ := Fr.size f3; intro y_ hy_ hl_; grind [blkOf]))
    by_cases hbig : n > 4096
    · have hdec : dec (bs.drop a) = ([], 0, 2) := by unfold dec; rw [if_neg h8]; simp only [hn]; rw [if_pos hbig]
      rw [hdec]
      refine ⟨(none, 0, 0), w3, g38_call ?_, nilS _, Nat.le_refl _, F3, by simp [blkOf]⟩
      unfold g38
      simp only [hw1, e2, e3, addr_add, Nat.zero_add, c2, c1, hbig, Option.bind_some, asP_pointer, asB_bool, asI_int, asS_string, asSl_slice, asM_map, asTup0, asTup1, asTup2, asTup3, asTup4, asTup5, getD0, getD1, getD2, getD3, getD4, Bool.not_true, Bool.not_false, Bool.false_eq_true, Bool.true_eq_false, ↓reduceIte, decide_true, decide_false, Option.isNone_some, Option.isNone_none, Option.isSome_some, Option.isSome_none, beq_self_eq_true, bne_self_eq_false, Bool.and_true, Bool.true_and, Bool.and_false, Bool.false_and, not_true_eq_false, not_false_eq_true]
      all_goals rfl
    · obtain ⟨nn, rfl⟩ := Int.eq_ofNat_of_zero_le hn0.1
      have hwn : IntKind.i64.wrap (nn : Int) = nn := wrap_i64 (by omega) (by omega)
      have hwe : IntKind.i64.wrap (((a + 4 + 4 : Nat) : Int) + (nn : Int)) = ((a + (8 + nn) : Nat) : Int) := by rw [wrap_i64 (by omega) (by omega)]; omega
      by_cases hend : ((bs.drop a).length : Int) - 8 < nn
      · have hdec : dec (bs.drop a) = ([], 0, 6) := by unfold dec; rw [if_neg h8]; simp only [hn]; rw [if_neg hbig, if_pos hend]
        rw [hdec]
        refine ⟨(none, 0, 0), w3, g38_call ?_, nilS _, Nat.le_refl _, F3, by simp [blkOf]⟩
        have hgt : ((a + (8 + nn) : Nat) : Int) > (u.2.1 : Int) := by omega
        unfold g38
        simp only [hw1, e2, e3, addr_add, Nat.zero_add, c2, c1, hbig, hwn, hwe, hgt, Option.bind_some, asP_pointer, asB_bool, asI_int, asS_string, asSl_slice, asM_map, asTup0, asTup1, asTup2, asTup3, asTup4, asTup5, getD0, getD1, getD2, getD3, getD4, Bool.not_true, Bool.not_false, Bool.false_eq_true, Bool.true_eq_false, ↓reduceIte, decide_true, decide_false, Option.isNone_some, Option.isNone_none, Option.isSome_some, Option.isSome_none, beq_self_eq_true, bne_self_eq_false, Bool.and_true, Bool.true_and, Bool.and_false, Bool.false_and, not_true_eq_false, not_false_eq_true]
        all_goals rfl
      · have hgt : ¬ ((a + (8 + nn) : Nat) : Int) > (u.2.1 : Int) := by omega
        have u3 := (hu.fr2 F3 (by simp)).slC.cut (i := a + 4 + 4) (j := a + (8 + nn)) (by omega) (by omega) hcap
        have es := slc_cut (u := u) (n := 1) (i := a + 4 + 4) (j := a + (8 + nn)) (by omega) (by omega)
        have bq := @blkOf_cut u (a + 4 + 4) 1 (a + (8 + nn) - (a + 4 + 4)) (u.2.2 - (a + 4 + 4))
        have hval : List.take ((a + (8 + nn) - (a + 4 + 4)) * 1) (List.drop ((a + 4 + 4) * 1) (bs.map (Value.int .u8))) = (((bs.drop a).drop 8).take nn).map (Value.int .u8) := by
          rw [List.map_take, List.map_drop, List.map_drop, List.drop_drop, show a + (8 + nn) - (a + 4 + 4) = nn by omega]
          simp only [Nat.mul_one]
        rw [hval] at u3
        have hqc : (a + (8 + nn) - (a + 4 + 4)) ≤ u.2.2 - (a + 4 + 4) := by omega
        generalize hq : ((if u.2.2 = a + 4 + 4 then u.1 else u.1.map (·.add ((a + 4 + 4) * 1))), a + (8 + nn) - (a + 4 + 4), u.2.2 - (a + 4 + 4)) = q at u3 es bq
        have hq2 : q.2.1 ≤ q.2.2 := by rw [← hq]; exact hqc
        have zq : Zs (((bs.drop a).drop 8).take nn) := fun z hm => hz' z (List.mem_of_mem_drop (List.mem_of_mem_take hm))
        have e4 := ref12 (w := w3.drew) (s := 0) (by decide) (SlC.ints u3) zq (by simp; omega)
        have F4 : Fr [] w w3.drew := F3.trans (Fr.drew _ _)
        by_cases hsum : more 0 (((bs.drop a).drop 8).take nn) = s
        · have hdec : dec (bs.drop a) = (((bs.drop a).drop 8).take nn, 8 + nn, 0) := by
            unfold dec; rw [if_neg h8]; simp only [hn, hs]; rw [if_neg hbig, if_neg hend, Int.toNat_natCast, if_pos hsum]
          rw [hdec]
          refine ⟨q, w3.drew.drew, g38_call ?_, (SlC.ints u3).fr2 ((Fr.drew [] w3).trans (Fr.drew _ _)) (by simp), hq2, F4.trans (Fr.drew _ _), bq⟩
          have hne : (more 0 (((bs.drop a).drop 8).take nn) != s) = false := by simpa using hsum
          have hto : toD a (((bs.drop a).drop 8).take nn, 8 + nn, 0) = ((a + (8 + nn) : Nat) : Int) := by unfold toD; rw [if_pos rfl]
          have c1'' : w3.drew.drew.cell? ⟨w.heap.size, 1, none⟩ = some (.int .i64 ((a + 4 + 4 : Nat) : Int)) := r3.blk.cell 1
          rw [hto]
          unfold g38
          simp only [hw1, e2, e3, addr_add, Nat.zero_add, c2, c1, c1', hbig, hwn, hwe, hgt, es, e4, hne, c1'', Option.bind_some, asP_pointer, asB_bool, asI_int, asS_string, asSl_slice, asM_map, asTup0, asTup1, asTup2, asTup3, asTup4, asTup5, getD0, getD1, getD2, getD3, getD4, Bool.not_true, Bool.not_false, Bool.false_eq_true, Bool.true_eq_false, ↓reduceIte, decide_true, decide_false, Option.isNone_some, Option.isNone_none, Option.isSome_some, Option.isSome_none, beq_self_eq_true, bne_self_eq_false, Bool.and_true, Bool.true_and, Bool.and_false, Bool.false_and, not_true_eq_false, not_false_eq_true]
        · have hdec : dec (bs.drop a) = ([], 0, 8) := by
            unfold dec; rw [if_neg h8]; simp only [hn, hs]; rw [if_neg hbig, if_neg hend, Int.toNat_natCast, if_neg hsum]
          rw [hdec]
          refine ⟨(none, 0, 0), w3.drew, g38_call ?_, nilS _, Nat.le_refl _, F4, by simp [blkOf]⟩
          have hne : (more 0 (((bs.drop a).drop 8).take nn) != s) = true := by simpa using hsum
          unfold g38
          simp only [hw1, e2, e3, addr_add, Nat.zero_add, c2, c1, c1', hbig, hwn, hwe, hgt, es, e4, hne, Option.bind_some, asP_pointer, asB_bool, asI_int, asS_string, asSl_slice, asM_map, asTup0, asTup1, asTup2, asTup3, asTup4, asTup5, getD0, getD1, getD2, getD3, getD4, Bool.not_true, Bool.not_false, Bool.false_eq_true, Bool.true_eq_false, ↓reduceIte, decide_true, decide_false, Option.isNone_some, Option.isNone_none, Option.isSome_some, Option.isSome_none, beq_self_eq_true, bne_self_eq_false, Bool.and_true, Bool.true_and, Bool.and_false, Bool.false_and, not_true_eq_false, not_false_eq_true]
          all_goals rfl
end

/-! ## scans -/
theorem dec_ok {bs : List Int} (h : (dec bs).2.2 = 0) : 8 ≤ (dec bs).2.1 ∧ (dec bs).2.1 ≤ bs.length ∧ (dec bs).2.1 = 8 + (dec bs).1.length := by
  unfold dec at *
  split
  · rename_i h1; rw [if_pos h1] at h; simp at h
  · rename_i h1
    rw [if_neg h1] at h
    simp only at *
    split
    · rename_i h2; rw [if_pos h2] at h; simp at h
    · rename_i h2
      rw [if_neg h2] at h
      split
      · rename_i h3; rw [if_pos h3] at h; simp at h
      · rename_i h3
        rw [if_neg h3] at h
        split
        · simp only [List.length_take, List.length_drop]; omega
        · rename_i h4; rw [if_neg h4] at h; simp at h

/-- the payloads, how many bytes they have, what ends them -/
def scan (bs : List Int) : List (List Int) × Nat × Int :=
  if h0 : bs.length = 0 then ([], 0, 0)
  else if h : (dec bs).2.2 = 0 then
    ((dec bs).1 :: (scan (bs.drop (dec bs).2.1)).1, (dec bs).2.1 + (scan (bs.drop (dec bs).2.1)).2.1, (scan (bs.drop (dec bs).2.1)).2.2)
  else ([], 0, (dec bs).2.2)
termination_by bs.length
decreasing_by all_goals (have := dec_ok h; simp only [List.length_drop]; omega)

theorem scan_nil {bs : List Int} (h0 : bs.length = 0) : scan bs = ([], 0, 0) := by rw [scan, dif_pos h0]
theorem scan_bad {bs : List Int} (h0 : ¬ bs.length = 0) (h : ¬ (dec bs).2.2 = 0) : scan bs = ([], 0, (dec bs).2.2) := by rw [scan, dif_neg h0, dif_neg h]
theorem scan_ok {bs : List Int} (h0 : ¬ bs.length = 0) (h : (dec bs).2.2 = 0) :
    scan bs = ((dec bs).1 :: (scan (bs.drop (dec bs).2.1)).1, (dec bs).2.1 + (scan (bs.drop (dec bs).2.1)).2.1, (scan (bs.drop (dec bs).2.1)).2.2) := by
  rw [scan, dif_neg h0, dif_pos h]

theorem info22 : ∃ i z, Try.prog.info? 31 = some i ∧ i.zero = some z ∧ i.size = 1 ∧ i.bytes = 24 ∧ z.cells.size = 1 := by
  have hsz : (match Try.prog.info? 31 with | some i => (decide (i.size = 1) && decide (i.bytes = 24) && (match i.zero with | some z => decide (z.cells.size = 1) | none => false)) | none => false) = true := by kernel_rfl
  cases hi : Try.prog.info? 31 with
  | none => rw [hi] at hsz; cases hsz
  | some i =>
    rw [hi] at hsz
    cases hz : i.zero with
    | none => simp [hz] at hsz
    | some z => simp [hz] at hsz; exact ⟨i, z, rfl, hz, hsz.1.1, hsz.1.2, hsz.2⟩

/-- append of one slice to a list of them -/
theorem app22 {w : World} {v q : Option Addr × Nat × Nat} {qs : List (Option Addr × Nat × Nat)} (h : Own w 31 1 v (qs.map slV)) (hl : qs.length ≤ 1073741824) (cs : Array Bool) :
    ∃ v' w', callB Try.prog .append #[22, 22] 22 cs #[.slice v.1 v.2.1 v.2.2, .slice (some ⟨w.heap.size, 0, none⟩) 1 1] (w.alloc (.cells #[.slice q.1 q.2.1 q.2.2] 31)) = some (.slice v'.1 v'.2.1 v'.2.2, w') ∧
      Own w' 31 1 v' ((qs ++ [q]).map slV) ∧ Fr (blkOf v) w w' ∧ (v'.1 = v.1 ∨ ∀ y ∈ blkOf v', w.heap.size ≤ y) := by
  obtain ⟨i, z, hi, hz, h1, h2, h3⟩ := info22
  have hl1 := h.len
  simp only [List.length_map, Nat.mul_one] at hl1
  have hml : maxLen = 9223372036854775807 := by decide
  have f0 : Fr [] w (w.alloc (.cells #[.slice q.1 q.2.1 q.2.2] 31)) := Fr.alloc _
  have hn := Blk.new w [.slice q.1 q.2.1 q.2.2] 31
  have hs : SlC (w.alloc (.cells #[.slice q.1 q.2.1 q.2.2] 31)) 1 (some ⟨w.heap.size, 0, none⟩, 1, 1) [slV q] := ⟨rfl, fun _ => ⟨w.heap.size, 0, rfl, hn.lt, fun j hj => by
    rw [hn.cell]
    simp only [List.length_cons, List.length_nil] at hj
    have : j = 0 := by omega
    subst this; rfl⟩⟩
  have hsz : (w.alloc (.cells #[.slice q.1 q.2.1 q.2.2] 31)).heap.size = w.heap.size + 1 := Array.size_push _
  have h' := h.fr f0 (by simp)
  generalize w.alloc (.cells #[.slice q.1 q.2.1 q.2.2] 31) = w1 at *
  obtain ⟨v', w', e, _, o, f, hv⟩ := callB_append (P := Try.prog) (t := 22) (tx := 22) (ty := 22) (consts := cs) Try.underlying22 hi hz h1 h2 h3 (d := .slice 31) Try.underlying22 (by intro k hk; cases hk) h'
    (x := .slice (some ⟨w.heap.size, 0, none⟩) 1 1) (m := 1) (news := [slV q]) rfl rfl
    (fun w' hw' => by
      have := SlC.firstCells (P := Try.prog) (w' := w') hs (m := 1) (by simp) hw'
      simpa using this) (by simp [slV]) (by omega) (by omega)
  refine ⟨v', w', e, ?_, (Fr.mono (Fr.app f0 f) (by have z0_ := Fr.size f0; have z1_ := Fr.size f; intro y_ hy_ hl_; grind [blkOf])), ?_⟩
  · rw [List.map_append]; exact o
  · rcases hv with hv | hv
    · exact .inl hv.1
    · right; rw [hv]; intro y hy; simp at hy; omega
end Go.Proofs.Ytnflklkjjjlpaaa

namespace Go.Proofs.Ytnflklkjjjlpaaa
open Go Go.Ev Go.Crc
set_option maxRecDepth 100000
set_option linter.unusedVariables false
set_option linter.unusedSimpArgs false
section
variable {w : World}

/-- a list with one more -/
theorem push22 {B : Nat → Prop} {E : World → (Option Addr × Nat × Nat) → List Int → Prop} (hE : Stays B E) {v q : Option Addr × Nat × Nat} {ps : List (List Int)} {p : List Int} (h : LsO 31 B E w v ps) (hq : E w q p)
    (hd : ∀ (q' : Option Addr × Nat × Nat) (p' : List Int) (w' : World), E w q' p' → Fr (blkOf v) w w' → E w' q' p') (hl : ps.length ≤ 1073741824) (hB : ∀ y, w.heap.size ≤ y → B y) (cs : Array Bool) :
    ∃ v' w', callB Try.prog .append #[22, 22] 22 cs #[.slice v.1 v.2.1 v.2.2, .slice (some ⟨w.heap.size, 0, none⟩) 1 1] (w.alloc (.cells #[.slice q.1 q.2.1 q.2.2] 31)) = some (.slice v'.1 v'.2.1 v'.2.2, w') ∧
      LsO 31 B E w' v' (ps ++ [p]) ∧ Fr (blkOf v) w w' ∧ (v'.1 = v.1 ∨ ∀ y ∈ blkOf v', w.heap.size ≤ y) := by
  obtain ⟨qs, h1, h2, h3, h4⟩ := h
  obtain ⟨v', w', e, o, f, hv⟩ := app22 (q := q) h1 (by omega) cs
  refine ⟨v', w', e, ⟨qs ++ [q], o, by simp [h2], ?_, fun i hi hi' => ?_⟩, f, hv⟩
  · rcases hv with hv | hv
    · intro y hy; refine h3 y ?_; simp only [blkOf] at hy ⊢; rw [hv] at hy; exact hy
    · intro y hy; exact hB y (hv y hy)
  · simp only [List.length_append, List.length_cons, List.length_nil] at hi hi'
    rcases Nat.lt_or_ge i ps.length with hlt | hge
    · rw [List.getElem_append_left (by omega), List.getElem_append_left hlt]
      exact hd _ _ _ (h4 i hlt (by omega)) f
    · have : i = ps.length := by omega
      subst this
      have e1 : (qs ++ [q])[ps.length]'(by simp; omega) = q := by rw [List.getElem_append_right (by omega)]; simp [h2]
      have e2 : (ps ++ [p])[ps.length]'(by simp) = p := by rw [List.getElem_append_right (by omega)]; simp
      rw [e1, e2]
      exact hd _ _ _ hq f

theorem dec_bound {bs : List Int} (h : bs.length ≤ 1073741824) : (dec bs).2.1 ≤ 1073741824 := by
  by_cases h0 : (dec bs).2.2 = 0
  · have := dec_ok h0; omega
  · unfold dec at *
    split
    · simp
    · rename_i h1
      rw [if_neg h1] at h0
      simp only at *
      split
      · simp
      · rename_i h2
        rw [if_neg h2] at h0
        split
        · simp
        · rename_i h3
          rw [if_neg h3] at h0
          split
          · rename_i h4; rw [if_pos h4] at h0; simp at h0
          · simp

theorem zs_drop {bs : List Int} (h : Zs bs) (k : Nat) : Zs (bs.drop k) := fun z hm => h z (List.mem_of_mem_drop hm)
theorem zs_take {bs : List Int} (h : Zs bs) (k : Nat) : Zs (bs.take k) := fun z hm => h z (List.mem_of_mem_take hm)

/-- what a framer takes of these bytes -/
theorem scan18 {fb tb : Nat} {u : Option Addr × Nat × Nat} {bs : List Int} (h : Fm w fb tb) (hu : Sl8 w u bs) (hz : Zs bs) (hcap : u.2.1 ≤ u.2.2) (hd : 0 < bs.length → tb ∉ blkOf u) (hl : bs.length ≤ 1073741824) :
    ∃ v' w', callF Try.prog 31 #[.pointer (some ⟨fb, 0, none⟩), .slice u.1 u.2.1 u.2.2] w = some (.tuple #[.slice v'.1 v'.2.1 v'.2.2, .int .i64 ((scan bs).2.1 : Int), .int .i64 (scan bs).2.2], w') ∧
      LsO 31 (fun y => w.heap.size ≤ y) (ElO 5 .u8 (fun y => w.heap.size ≤ y)) w' v' (scan bs).1 ∧ Fm w' fb tb ∧ Fr [tb] w w' := by
  have hul := hu.1
  have htl := h.tbl.lt
  have hfl := h.blk.lt
  obtain ⟨e, s, w', g1, g2⟩ := loopS_meas (b := g31_l1_b u (some ⟨fb, 0, none⟩))
    (I := fun s x => ∃ v ps a, s = ((none, 0, 0), 0, 0, v, ((a : Nat) : Int)) ∧ a ≤ bs.length ∧ 8 * ps.length ≤ a ∧ LsO 31 (fun y => w.heap.size ≤ y) (ElO 5 .u8 (fun y => w.heap.size ≤ y)) x v ps ∧ Fm x fb tb ∧ Fr [tb] w x ∧
      scan bs = (ps ++ (scan (bs.drop a)).1, a + (scan (bs.drop a)).2.1, (scan (bs.drop a)).2.2))
    (Q := fun e s x => (∃ t : (Option Addr × Nat × Nat) × Int × Int, (e = .exit 0 ∧ s = ((none, 0, 0), 0, 0, t.1, t.2.1) ∧ t.2.2 = 0 ∨ e = .ret ∧ s.1 = t.1 ∧ s.2.1 = t.2.1 ∧ s.2.2.1 = t.2.2) ∧ t.2.1 = ((scan bs).2.1 : Int) ∧ t.2.2 = (scan bs).2.2 ∧
      LsO 31 (fun y => w.heap.size ≤ y) (ElO 5 .u8 (fun y => w.heap.size ≤ y)) x t.1 (scan bs).1) ∧ Fm x fb tb ∧ Fr [tb] w x)
    (fun s => bs.length - s.2.2.2.2.toNat)
    (fun s x ⟨v, ps, a, hs, ha, hpa, hL, hF, hf, hsc⟩ => by
      subst hs
      by_cases hlt : a < bs.length
      · have hc : ((a : Nat) : Int) < (u.2.1 : Int) := by omega
        have hux := hu.fr3 hf (by intro h0 y hy hm; simp at hm; subst hm; exact hd (by omega) hy)
        obtain ⟨q, eq, uq, bq⟩ := slc_lo hux (j := a) ha hcap
        have hql : q.2.1 ≤ q.2.2 := by
          simp only [slc_from (n := 1) (show a ≤ u.2.1 by omega) hcap, Option.some.injEq] at eq
          rw [← eq]; show u.2.1 - a ≤ u.2.2 - a; omega
        obtain ⟨q8, x2, e2, o2, m2, f2, hq8⟩ := decode16 hF uq (zs_drop hz a) hql (fun h0 hm => hd (by simp at h0; omega) (bq _ hm)) (by simp; omega)
        have z2 := f2.size
        have z0 := hf.size
        have hne0 : ¬ (bs.drop a).length = 0 := by simp; omega
        by_cases hok : (dec (bs.drop a)).2.2 = 0
        · have hdk := dec_ok hok
          have hL2 := hL.fr (stays_o _ _ _) f2 (by grind)
          obtain ⟨v3, x3, e3, L3, f3, hv3⟩ := push22 (stays_o 5 .u8 _) (p := (dec (bs.drop a)).1) hL2 ⟨o2, fun y hy => by have := hq8 y hy; omega⟩
            (fun q' p' w' ⟨k1, k2⟩ kf => ⟨k1.fr kf (by obtain ⟨qs, h1, _⟩ := hL2; exact Own.apart k1 h1 (by decide)), k2⟩) (by omega) (by intro y hy; omega) #[false, false]
          have hbl : ∀ y ∈ blkOf v, w.heap.size ≤ y := by obtain ⟨qs, _, _, h3, _⟩ := hL; exact h3
          have z3 := f3.size
          have hww : IntKind.i64.wrap (((a : Nat) : Int) + ((dec (bs.drop a)).2.1 : Int)) = ((a + (dec (bs.drop a)).2.1 : Nat) : Int) := by
            have := @dec_bound (bs.drop a) (by simp; omega)
            rw [wrap_i64 (by omega) (by omega)]; omega
          have hlen : (bs.drop a).length = bs.length - a := List.length_drop
          refine ⟨.normal, ((none, 0, 0), 0, 0, v3, ((a + (dec (bs.drop a)).2.1 : Nat) : Int)), x3, ?_, .inl ⟨rfl, ⟨v3, ps ++ [(dec (bs.drop a)).1], a + (dec (bs.drop a)).2.1, rfl, by omega, by simp; omega, L3, ?_, (Fr.mono (Fr.app (Fr.app hf f2) f3) (by have z0_ := Fr.size hf; have z1_ := Fr.size f2; have z2_ := Fr.size f3; intro y_ hy_ hl_; grind [blkOf])), ?_⟩, by simp; omega⟩⟩
          · have hz0 : ((dec (bs.drop a)).2.2 != 0) = false := by simpa using hok
            unfold g31_l1_b
            simp only [hc, eq, e2, hz0, e3, hww, Option.bind_some, asP_pointer, asB_bool, asI_int, asS_string, asSl_slice, asM_map, asTup0, asTup1, asTup2, asTup3, asTup4, asTup5, getD0, getD1, getD2, getD3, getD4, Bool.not_true, Bool.not_false, Bool.false_eq_true, Bool.true_eq_false, ↓reduceIte, decide_true, decide_false, Option.isNone_some, Option.isNone_none, Option.isSome_some, Option.isSome_none, beq_self_eq_true, bne_self_eq_false, Bool.and_true, Bool.true_and, Bool.and_false, Bool.false_and, not_true_eq_false, not_false_eq_true]
          · exact m2.fr f3 (by grind) (by grind)
          · rw [hsc, scan_ok hne0 hok, List.drop_drop]
            simp [Nat.add_assoc]
        · refine ⟨.ret, (v, ((a : Nat) : Int), (dec (bs.drop a)).2.2, v, ((a : Nat) : Int)), x2, ?_, .inr ⟨by simp, ⟨(v, ((a : Nat) : Int), (dec (bs.drop a)).2.2), .inr ⟨rfl, rfl, rfl, rfl⟩, ?_⟩, m2, (Fr.mono (Fr.app hf f2) (by have z0_ := Fr.size hf; have z1_ := Fr.size f2; intro y_ hy_ hl_; grind [blkOf]))⟩⟩
          · have hz0 : ((dec (bs.drop a)).2.2 != 0) = true := by simpa using hok
            unfold g31_l1_b
            simp only [hc, eq, e2, hz0, Option.bind_some, asP_pointer, asB_bool, asI_int, asS_string, asSl_slice, asM_map, asTup0, asTup1, asTup2, asTup3, asTup4, asTup5, getD0, getD1, getD2, getD3, getD4, Bool.not_true, Bool.not_false, Bool.false_eq_true, Bool.true_eq_false, ↓reduceIte, decide_true, decide_false, Option.isNone_some, Option.isNone_none, Option.isSome_some, Option.isSome_none, beq_self_eq_true, bne_self_eq_false, Bool.and_true, Bool.true_and, Bool.and_false, Bool.false_and, not_true_eq_false, not_false_eq_true]
          · rw [hsc, scan_bad hne0 hok]
            simp only [List.append_nil, Nat.add_zero, true_and]
            exact hL.fr (stays_o _ _ _) f2 (by grind)
      · have hc : ¬ ((a : Nat) : Int) < (u.2.1 : Int) := by omega
        refine ⟨.exit 0, ((none, 0, 0), 0, 0, v, ((a : Nat) : Int)), x, ?_, .inr ⟨by simp, ⟨(v, ((a : Nat) : Int), 0), .inl ⟨rfl, rfl, rfl⟩, ?_⟩, hF, hf⟩⟩
        · unfold g31_l1_b
          simp only [hc, Option.bind_some, asP_pointer, asB_bool, asI_int, asS_string, asSl_slice, asM_map, asTup0, asTup1, asTup2, asTup3, asTup4, asTup5, getD0, getD1, getD2, getD3, getD4, Bool.not_true, Bool.not_false, Bool.false_eq_true, Bool.true_eq_false, ↓reduceIte, decide_true, decide_false, Option.isNone_some, Option.isNone_none, Option.isSome_some, Option.isSome_none, beq_self_eq_true, bne_self_eq_false, Bool.and_true, Bool.true_and, Bool.and_false, Bool.false_and, not_true_eq_false, not_false_eq_true]
        · rw [hsc, scan_nil (by simp; omega)]
          simp only [List.append_nil, Nat.add_zero, true_and]
          exact hL) (s := ((none, 0, 0), 0, 0, (none, 0, 0), 0)) (w := w)
    ⟨(none, 0, 0), [], 0, rfl, by omega, by simp, LsO.nil, h, Fr.refl _ _, by simp⟩
  obtain ⟨⟨t, ht, t1, t2, t3⟩, hF, hf⟩ := g2
  refine ⟨t.1, w', g31_call ?_, t3, hF, hf⟩
  rw [← t1, ← t2]
  rcases ht with ⟨rfl, rfl, h0⟩ | ⟨rfl, h1, h2, h3⟩
  · unfold g31
    simp only [g31_l1_x0_of g1, g31_l1_x0, h0, Option.bind_some, asP_pointer, asB_bool, asI_int, asS_string, asSl_slice, asM_map, asTup0, asTup1, asTup2, asTup3, asTup4, asTup5, getD0, getD1, getD2, getD3, getD4, Bool.not_true, Bool.not_false, Bool.false_eq_true, Bool.true_eq_false, ↓reduceIte, decide_true, decide_false, Option.isNone_some, Option.isNone_none, Option.isSome_some, Option.isSome_none, beq_self_eq_true, bne_self_eq_false, Bool.and_true, Bool.true_and, Bool.and_false, Bool.false_and, not_true_eq_false, not_false_eq_true]
  · unfold g31
    simp only [g31_l1_ret_of g1, g31_l1_ret, h1, h2, h3, Option.bind_some, asP_pointer, asB_bool, asI_int, asS_string, asSl_slice, asM_map, asTup0, asTup1, asTup2, asTup3, asTup4, asTup5, getD0, getD1, getD2, getD3, getD4, Bool.not_true, Bool.not_false, Bool.false_eq_true, Bool.true_eq_false, ↓reduceIte, decide_true, decide_false, Option.isNone_some, Option.isNone_none, Option.isSome_some, Option.isSome_none, beq_self_eq_true, bne_self_eq_false, Bool.and_true, Bool.true_and, Bool.and_false, Bool.false_and, not_true_eq_false, not_false_eq_true]
end
end Go.Proofs.Ytnflklkjjjlpaaa

namespace Go.Proofs.Ytnflklkjjjlpaaa
open Go Go.Ev Go.Crc
set_option maxRecDepth 100000
set_option linter.unusedVariables false
set_option linter.unusedSimpArgs false
section
variable {w : World}

/-- where a list of slices of another's bytes lies -/
def InU (w : World) (u : Option Addr × Nat × Nat) (y : Nat) : Prop := y ∈ blkOf u ∨ w.heap.size ≤ y

/-- what the document takes of these bytes -/
theorem docscan17 {u : Option Addr × Nat × Nat} {bs : List Int} (hu : Sl8 w u bs) (hz : Zs bs) (hcap : u.2.1 ≤ u.2.2) (hl : bs.length ≤ 1073741824) (hlt : ∀ y ∈ blkOf u, y < w.heap.size) :
    ∃ v' w', callF Try.prog 21 #[.slice u.1 u.2.1 u.2.2] w = some (.tuple #[.slice v'.1 v'.2.1 v'.2.2, .int .i64 ((scan bs).2.1 : Int), .int .i64 (scan bs).2.2], w') ∧
      Lst .u8 w' (InU w u) v' (scan bs).1 ∧ Fr [] w w' := by
  have hul := hu.1
  have hCB : ∀ y, (y ∈ blkOf u) → InU w u y := fun y hy => .inl hy
  obtain ⟨e, s, w', g1, g2⟩ := loopS_meas (b := g21_l1_b u)
    (I := fun s x => ∃ v ps a, s = ((none, 0, 0), 0, 0, v, ((a : Nat) : Int)) ∧ a ≤ bs.length ∧ 8 * ps.length ≤ a ∧ (LsO 31 (InU w u) (ElR .u8 (fun y => y ∈ blkOf u)) x v ps ∧ ∀ y ∈ blkOf v, w.heap.size ≤ y) ∧ Fr [] w x ∧
      scan bs = (ps ++ (scan (bs.drop a)).1, a + (scan (bs.drop a)).2.1, (scan (bs.drop a)).2.2))
    (Q := fun e s x => (∃ t : (Option Addr × Nat × Nat) × Int × Int, (e = .exit 0 ∧ s = ((none, 0, 0), 0, 0, t.1, t.2.1) ∧ t.2.2 = 0 ∨ e = .ret ∧ s.1 = t.1 ∧ s.2.1 = t.2.1 ∧ s.2.2.1 = t.2.2) ∧ t.2.1 = ((scan bs).2.1 : Int) ∧ t.2.2 = (scan bs).2.2 ∧
      LsO 31 (InU w u) (ElR .u8 (fun y => y ∈ blkOf u)) x t.1 (scan bs).1) ∧ Fr [] w x)
    (fun s => bs.length - s.2.2.2.2.toNat)
    (fun s x ⟨v, ps, a, hs, ha, hpa, ⟨hL, hvl⟩, hf, hsc⟩ => by
      subst hs
      by_cases hlt' : a < bs.length
      · have hc : ((a : Nat) : Int) < (u.2.1 : Int) := by omega
        have hux := hu.fr2 hf (by simp)
        obtain ⟨q8, x2, e2, o2, c2, f2, hq8⟩ := docdec15 hux hz hcap ha hl
        have z2 := f2.size
        have z0 := hf.size
        have hne0 : ¬ (bs.drop a).length = 0 := by simp; omega
        by_cases hok : (dec (bs.drop a)).2.2 = 0
        · have hdk := dec_ok hok
          have hL2 := hL.fr (stays_r' _ hCB) f2 (by simp)
          obtain ⟨v3, x3, e3, L3, f3, hv3⟩ := push22 (stays_r' .u8 hCB) (p := (dec (bs.drop a)).1) hL2 ⟨o2, c2, fun _ y hy => hq8 y hy⟩
            (fun q' p' w' ⟨k1, k2, k3⟩ kf => ⟨k1.fr3 kf (by
              intro h0 y hy hm
              have hyv := hvl y hm
              have := hlt y (k3 (by rw [k1.1]; exact h0) y hy); omega), k2, k3⟩) (by omega) (by intro y hy; right; omega) #[false, false]
          have z3 := f3.size
          have hto : toD a (dec (bs.drop a)) = ((a + (dec (bs.drop a)).2.1 : Nat) : Int) := by unfold toD; rw [if_pos hok]
          have hlen : (bs.drop a).length = bs.length - a := List.length_drop
          refine ⟨.normal, ((none, 0, 0), 0, 0, v3, ((a + (dec (bs.drop a)).2.1 : Nat) : Int)), x3, ?_, .inl ⟨rfl, ⟨v3, ps ++ [(dec (bs.drop a)).1], a + (dec (bs.drop a)).2.1, rfl, by omega, by simp; omega, ⟨L3, ?_⟩, (Fr.mono (Fr.app (Fr.app hf f2) f3) (by have z0_ := Fr.size hf; have z1_ := Fr.size f2; have z2_ := Fr.size f3; intro y_ hy_ hl_; grind [blkOf])), ?_⟩, by simp; omega⟩⟩
          · have hz0 : ((dec (bs.drop a)).2.2 != 0) = false := by simpa using hok
            unfold g21_l1_b
            simp only [hc, e2, hz0, e3, hto, Option.bind_some, asP_pointer, asB_bool, asI_int, asS_string, asSl_slice, asM_map, asTup0, asTup1, asTup2, asTup3, asTup4, asTup5, getD0, getD1, getD2, getD3, getD4, Bool.not_true, Bool.not_false, Bool.false_eq_true, Bool.true_eq_false, ↓reduceIte, decide_true, decide_false, Option.isNone_some, Option.isNone_none, Option.isSome_some, Option.isSome_none, beq_self_eq_true, bne_self_eq_false, Bool.and_true, Bool.true_and, Bool.and_false, Bool.false_and, not_true_eq_false, not_false_eq_true]
          · grind [blkOf]
          · rw [hsc, scan_ok hne0 hok, List.drop_drop]
            simp [Nat.add_assoc]
        · refine ⟨.ret, (v, ((a : Nat) : Int), (dec (bs.drop a)).2.2, v, ((a : Nat) : Int)), x2, ?_, .inr ⟨by simp, ⟨(v, ((a : Nat) : Int), (dec (bs.drop a)).2.2), .inr ⟨rfl, rfl, rfl, rfl⟩, ?_⟩, (Fr.mono (Fr.app hf f2) (by have z0_ := Fr.size hf; have z1_ := Fr.size f2; intro y_ hy_ hl_; grind [blkOf]))⟩⟩
          · have hz0 : ((dec (bs.drop a)).2.2 != 0) = true := by simpa using hok
            unfold g21_l1_b
            simp only [hc, e2, hz0, Option.bind_some, asP_pointer, asB_bool, asI_int, asS_string, asSl_slice, asM_map, asTup0, asTup1, asTup2, asTup3, asTup4, asTup5, getD0, getD1, getD2, getD3, getD4, Bool.not_true, Bool.not_false, Bool.false_eq_true, Bool.true_eq_false, ↓reduceIte, decide_true, decide_false, Option.isNone_some, Option.isNone_none, Option.isSome_some, Option.isSome_none, beq_self_eq_true, bne_self_eq_false, Bool.and_true, Bool.true_and, Bool.and_false, Bool.false_and, not_true_eq_false, not_false_eq_true]
          · rw [hsc, scan_bad hne0 hok]
            simp only [List.append_nil, Nat.add_zero, true_and]
            exact hL.fr (stays_r' _ hCB) f2 (by simp)
      · have hc : ¬ ((a : Nat) : Int) < (u.2.1 : Int) := by omega
        refine ⟨.exit 0, ((none, 0, 0), 0, 0, v, ((a : Nat) : Int)), x, ?_, .inr ⟨by simp, ⟨(v, ((a : Nat) : Int), 0), .inl ⟨rfl, rfl, rfl⟩, ?_⟩, hf⟩⟩
        · unfold g21_l1_b
          simp only [hc, Option.bind_some, asP_pointer, asB_bool, asI_int, asS_string, asSl_slice, asM_map, asTup0, asTup1, asTup2, asTup3, asTup4, asTup5, getD0, getD1, getD2, getD3, getD4, Bool.not_true, Bool.not_false, Bool.false_eq_true, Bool.true_eq_false, ↓reduceIte, decide_true, decide_false, Option.isNone_some, Option.isNone_none, Option.isSome_some, Option.isSome_none, beq_self_eq_true, bne_self_eq_false, Bool.and_true, Bool.true_and, Bool.and_false, Bool.false_and, not_true_eq_false, not_false_eq_true]
        · rw [hsc, scan_nil (by simp; omega)]
          simp only [List.append_nil, Nat.add_zero, true_and]
          exact hL) (s := ((none, 0, 0), 0, 0, (none, 0, 0), 0)) (w := w)
    ⟨(none, 0, 0), [], 0, rfl, by omega, by simp, ⟨LsO.nil, by simp [blkOf]⟩, Fr.refl _ _, by simp⟩
  obtain ⟨⟨t, ht, t1, t2, t3⟩, hf⟩ := g2
  refine ⟨t.1, w', g21_call ?_, t3.lstR hCB, hf⟩
  rw [← t1, ← t2]
  rcases ht with ⟨rfl, rfl, h0⟩ | ⟨rfl, h1, h2, h3⟩
  · unfold g21
    simp only [g21_l1_x0_of g1, g21_l1_x0, h0, Option.bind_some, asP_pointer, asB_bool, asI_int, asS_string, asSl_slice, asM_map, asTup0, asTup1, asTup2, asTup3, asTup4, asTup5, getD0, getD1, getD2, getD3, getD4, Bool.not_true, Bool.not_false, Bool.false_eq_true, Bool.true_eq_false, ↓reduceIte, decide_true, decide_false, Option.isNone_some, Option.isNone_none, Option.isSome_some, Option.isSome_none, beq_self_eq_true, bne_self_eq_false, Bool.and_true, Bool.true_and, Bool.and_false, Bool.false_and, not_true_eq_false, not_false_eq_true]
  · unfold g21
    simp only [g21_l1_ret_of g1, g21_l1_ret, h1, h2, h3, Option.bind_some, asP_pointer, asB_bool, asI_int, asS_string, asSl_slice, asM_map, asTup0, asTup1, asTup2, asTup3, asTup4, asTup5, getD0, getD1, getD2, getD3, getD4, Bool.not_true, Bool.not_false, Bool.false_eq_true, Bool.true_eq_false, ↓reduceIte, decide_true, decide_false, Option.isNone_some, Option.isNone_none, Option.isSome_some, Option.isSome_none, beq_self_eq_true, bne_self_eq_false, Bool.and_true, Bool.true_and, Bool.and_false, Bool.false_and, not_true_eq_false, not_false_eq_true]

/-- two lists of payloads are compared -/
theorem samelist19 {u v : Option Addr × Nat × Nat} {xs bs : List (List Int)} {B C : Nat → Prop} (hu : Lst .u8 w B u xs) (hv : Lst .u8 w C v bs) (hl : xs.length < 9223372036854775807) (hla : ∀ p ∈ xs, p.length < 9223372036854775807) :
    ∃ w', callF Try.prog 17 #[.slice u.1 u.2.1 u.2.2, .slice v.1 v.2.1 v.2.2] w = some (.bool (decide (xs = bs)), w') ∧ Fr [] w w' := by
  have h1 := hu.len
  have h2 := hv.len
  by_cases hlen : xs.length = bs.length
  · have hne : ((u.2.1 : Int) != (v.2.1 : Int)) = false := by
      have : (u.2.1 : Int) = (v.2.1 : Int) := by omega
      simp [this]
    obtain ⟨e, t, w', g1, g2, g3⟩ := loopS_rule (b := g17_l3_b u v)
      (I := fun k s x => s = (false, (k : Int)) ∧ Fr [] w x ∧ xs.take k = bs.take k)
      (Q := fun e s x => Fr [] w x ∧ ((e = .exit 0 ∧ xs = bs) ∨ (e = .ret ∧ s.1 = false ∧ xs ≠ bs))) (n := xs.length)
      (fun k s x hk ⟨hs, hf, ht⟩ => by
        subst hs
        obtain ⟨p1, q1, i1, c1, r1, _, _⟩ := (hu.fr (hf.trans (Fr.drew _ _)) (by simp)).get hk
        obtain ⟨p2, q2, i2, c2, r2, _, _⟩ := (hv.fr (hf.trans (Fr.drew _ _)) (by simp)).get (i := k) (by omega)
        obtain ⟨x2, e2, f2⟩ := same14 r1 r2 (hla _ (List.getElem_mem hk))
        have hc : (k : Int) < (u.2.1 : Int) := by omega
        have hs := wrap_succ (n := k) (by omega)
        by_cases he : xs[k] = bs[k]
        · refine ⟨.normal, (false, ((k + 1 : Nat) : Int)), x2, ?_, .inl ⟨rfl, rfl, (hf.trans (Fr.drew _ _)).trans f2, ?_⟩⟩
          · have hd : decide (xs[k] = bs[k]) = true := by simpa using he
            unfold g17_l3_b
            simp only [hc, i1, c1, i2, c2, e2, hd, hs, Option.bind_some, asP_pointer, asB_bool, asI_int, asS_string, asSl_slice, asM_map, asTup0, asTup1, asTup2, asTup3, asTup4, asTup5, getD0, getD1, getD2, getD3, getD4, Bool.not_true, Bool.not_false, Bool.false_eq_true, Bool.true_eq_false, ↓reduceIte, decide_true, decide_false, Option.isNone_some, Option.isNone_none, Option.isSome_some, Option.isSome_none, beq_self_eq_true, bne_self_eq_false, Bool.and_true, Bool.true_and, Bool.and_false, Bool.false_and, not_true_eq_false, not_false_eq_true]
          · rw [List.take_succ_eq_append_getElem hk, List.take_succ_eq_append_getElem (by omega), ht, he]
        · refine ⟨.ret, (false, (k : Int)), x2, ?_, .inr ⟨by simp, (hf.trans (Fr.drew _ _)).trans f2, .inr ⟨rfl, rfl, fun e => he (by subst e; rfl)⟩⟩⟩
          have hd : decide (xs[k] = bs[k]) = false := by simpa using he
          unfold g17_l3_b
          simp only [hc, i1, c1, i2, c2, e2, hd, Option.bind_some, asP_pointer, asB_bool, asI_int, asS_string, asSl_slice, asM_map, asTup0, asTup1, asTup2, asTup3, asTup4, asTup5, getD0, getD1, getD2, getD3, getD4, Bool.not_true, Bool.not_false, Bool.false_eq_true, Bool.true_eq_false, ↓reduceIte, decide_true, decide_false, Option.isNone_some, Option.isNone_none, Option.isSome_some, Option.isSome_none, beq_self_eq_true, bne_self_eq_false, Bool.and_true, Bool.true_and, Bool.and_false, Bool.false_and, not_true_eq_false, not_false_eq_true])
      (fun s x ⟨hs, hf, ht⟩ => by
        subst hs
        refine ⟨.exit 0, (false, ((xs.length : Nat) : Int)), x, ?_, by simp, hf, .inl ⟨rfl, ?_⟩⟩
        · have hc : ¬ ((xs.length : Nat) : Int) < (u.2.1 : Int) := by omega
          unfold g17_l3_b
          simp only [hc, Option.bind_some, asP_pointer, asB_bool, asI_int, asS_string, asSl_slice, asM_map, asTup0, asTup1, asTup2, asTup3, asTup4, asTup5, getD0, getD1, getD2, getD3, getD4, Bool.not_true, Bool.not_false, Bool.false_eq_true, Bool.true_eq_false, ↓reduceIte, decide_true, decide_false, Option.isNone_some, Option.isNone_none, Option.isSome_some, Option.isSome_none, beq_self_eq_true, bne_self_eq_false, Bool.and_true, Bool.true_and, Bool.and_false, Bool.false_and, not_true_eq_false, not_false_eq_true]
        · rwa [List.take_length, List.take_of_length_le (Nat.le_of_eq hlen.symm)] at ht)
      (Nat.zero_le _) (k := 0) (s := (false, 0)) (w := w) ⟨rfl, Fr.refl _ _, rfl⟩
    refine ⟨w', g17_call ?_, g2⟩
    rcases g3 with ⟨rfl, h⟩ | ⟨rfl, hf, h⟩
    · have hd : decide (xs = bs) = true := by simpa using h
      unfold g17
      rw [hd]
      simp only [hne, g17_l3_x0_of g1, g17_l3_x0, Option.bind_some, asP_pointer, asB_bool, asI_int, asS_string, asSl_slice, asM_map, asTup0, asTup1, asTup2, asTup3, asTup4, asTup5, getD0, getD1, getD2, getD3, getD4, Bool.not_true, Bool.not_false, Bool.false_eq_true, Bool.true_eq_false, ↓reduceIte, decide_true, decide_false, Option.isNone_some, Option.isNone_none, Option.isSome_some, Option.isSome_none, beq_self_eq_true, bne_self_eq_false, Bool.and_true, Bool.true_and, Bool.and_false, Bool.false_and, not_true_eq_false, not_false_eq_true]
    · have hd : decide (xs = bs) = false := by simpa using h
      unfold g17
      rw [hd]
      simp only [hne, g17_l3_ret_of g1, g17_l3_ret, hf, Option.bind_some, asP_pointer, asB_bool, asI_int, asS_string, asSl_slice, asM_map, asTup0, asTup1, asTup2, asTup3, asTup4, asTup5, getD0, getD1, getD2, getD3, getD4, Bool.not_true, Bool.not_false, Bool.false_eq_true, Bool.true_eq_false, ↓reduceIte, decide_true, decide_false, Option.isNone_some, Option.isNone_none, Option.isSome_some, Option.isSome_none, beq_self_eq_true, bne_self_eq_false, Bool.and_true, Bool.true_and, Bool.and_false, Bool.false_and, not_true_eq_false, not_false_eq_true]
  · have hne : ((u.2.1 : Int) != (v.2.1 : Int)) = true := by
      have : ¬ (u.2.1 : Int) = (v.2.1 : Int) := by omega
      simpa using this
    refine ⟨w, g17_call ?_, Fr.refl _ _⟩
    have hd : decide (xs = bs) = false := by
      have : ¬ xs = bs := fun e => hlen (by rw [e])
      simpa using this
    unfold g17
    rw [hd]
    simp only [hne, Option.bind_some, asP_pointer, asB_bool, asI_int, asS_string, asSl_slice, asM_map, asTup0, asTup1, asTup2, asTup3, asTup4, asTup5, getD0, getD1, getD2, getD3, getD4, Bool.not_true, Bool.not_false, Bool.false_eq_true, Bool.true_eq_false, ↓reduceIte, decide_true, decide_false, Option.isNone_some, Option.isNone_none, Option.isSome_some, Option.isSome_none, beq_self_eq_true, bne_self_eq_false, Bool.and_true, Bool.true_and, Bool.and_false, Bool.false_and, not_true_eq_false, not_false_eq_true]
end
end Go.Proofs.Ytnflklkjjjlpaaa
