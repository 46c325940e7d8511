/-
  ImageM: lemmas on what Go functions of this seat come to (for whatever arguments, as each says). No condition but those that stand in each lemma.
-/
import Derived.Test.YtjcenfgmpbeldaaImageK
namespace Go.Proofs.Ytjcenfgmpbeldaa
open Go Go.Ev
set_option maxRecDepth 100000
set_option linter.unusedVariables false
set_option linter.unusedSimpArgs false

def pv0 : PV := ⟨0, 0, 0, [], [], []⟩
def PV.arg (v : PV) (qi qr qt : Sh) : Value := .agg #[.int .i64 v.ld, .int .i64 v.ep, .int .i64 v.vr, .slice qi.1 qi.2.1 qi.2.2, .slice qr.1 qr.2.1 qr.2.2, .slice qt.1 qt.2.1 qt.2.2]
theorem pvcs_oc (v : PV) (qi qr qt : Sh) : ∀ u ∈ v.cs qi qr qt, u.oneCell' = true := by
  intro u hu
  simp only [PV.cs, List.mem_cons, List.not_mem_nil, or_false] at hu
  rcases hu with rfl | rfl | rfl | rfl | rfl | rfl <;> rfl
abbrev nl : Sh := (none, 0, 0)
theorem zero30 (w : World) : Blk (w.alloc (.cells #[.int .i64 0, .int .i64 0, .int .i64 0, .slice none 0 0, .slice none 0 0, .slice none 0 0] 30)) w.heap.size (pv0.cs nl nl nl) 30 ∧
    Fr [] w (w.alloc (.cells #[.int .i64 0, .int .i64 0, .int .i64 0, .slice none 0 0, .slice none 0 0, .slice none 0 0] 30)) := ⟨Blk.new w (pv0.cs nl nl nl) 30, Fr.alloc _⟩

theorem retP {w x : World} {g : Nat} {cs : List Value} (hb : Blk x g cs 30) (hl : cs.length = 6) (hf : Fr [] w x) (hg : w.heap.size ≤ g) (v : PV) (qi qr qt : Sh) :
    ∃ w', stL x ⟨g, 0, none⟩ [.int .i64 v.ld, .int .i64 v.ep, .int .i64 v.vr, .slice qi.1 qi.2.1 qi.2.2, .slice qr.1 qr.2.1 qr.2.2, .slice qt.1 qt.2.1 qt.2.2] 0 = some w' ∧
      ldN w' ⟨g, 0, none⟩ 0 6 = some [.int .i64 v.ld, .int .i64 v.ep, .int .i64 v.vr, .slice qi.1 qi.2.1 qi.2.2, .slice qr.1 qr.2.1 qr.2.2, .slice qt.1 qt.2.1 qt.2.2] ∧ Fr [] w w' ∧ Fr [g] x w' := by
  obtain ⟨w', h1, h2, h3⟩ := hb.stL (vs := v.cs qi qr qt) (by rw [hl]; rfl) (pvcs_oc v qi qr qt)
  exact ⟨w', h1, h2.ldN (n := 6) rfl, (hf.app h3).mono (by intro y hy hl; simp at hy; omega), h3⟩

/-- a partition in a block of its own -/
theorem newP (x : World) (v : PV) (qi qr qt : Sh) : ∃ x', stL (x.alloc (.cells #[.int .i64 0, .int .i64 0, .int .i64 0, .slice none 0 0, .slice none 0 0, .slice none 0 0] 30)) ⟨x.heap.size, 0, none⟩ [.int .i64 v.ld, .int .i64 v.ep, .int .i64 v.vr, .slice qi.1 qi.2.1 qi.2.2, .slice qr.1 qr.2.1 qr.2.2, .slice qt.1 qt.2.1 qt.2.2] 0 = some x' ∧
    Blk x' x.heap.size (v.cs qi qr qt) 30 ∧ Fr [] x x' ∧ ldN x' ⟨x.heap.size, 0, none⟩ 0 6 = some [.int .i64 v.ld, .int .i64 v.ep, .int .i64 v.vr, .slice qi.1 qi.2.1 qi.2.2, .slice qr.1 qr.2.1 qr.2.2, .slice qt.1 qt.2.1 qt.2.2] := by
  obtain ⟨b, f⟩ := zero30 x
  obtain ⟨x', h1, h2, h3⟩ := b.stL (vs := v.cs qi qr qt) rfl (pvcs_oc v qi qr qt)
  exact ⟨x', h1, h2, (f.app h3).mono (by intro y hy hl; simp at hy; omega), h2.ldN (n := 6) rfl⟩
theorem blk_put {w : World} {p : Nat} {cs : List Value} {T : TypeId} (h : Blk w p cs T) {i : Nat} (hi : i < cs.length) {v : Value} (hv : v.oneCell' = true) :
    ∃ w', st1 w ⟨p, i, none⟩ v = some w' ∧ Blk w' p (cs.set i v) T ∧ Fr [p] w w' := ⟨_, h.st1 hi hv, h.set i v, Fr.setCell⟩

section
variable {w : World} {D : Nat → Prop} {b c : Nat} {nq pq : Sh} {ns : List NV} {es : List PE} {next count : Int}

theorem part15_no (h : Raw w D b c nq pq ns es next count) {k : Int} (hk : k < 0 ∨ (es.length : Int) ≤ k) :
    ∃ w', callF Try.prog 15 #[.pointer (some ⟨b, 0, none⟩), .int .i64 k] w = some (.tuple #[pv0.arg nl nl nl, .bool false], w') ∧ Fr [] w w' := by
  obtain ⟨b1, f1⟩ := zero30 w
  obtain ⟨w1, hw1⟩ : ∃ w1, w.alloc (.cells #[.int .i64 0, .int .i64 0, .int .i64 0, .slice none 0 0, .slice none 0 0, .slice none 0 0] 30) = w1 := ⟨_, rfl⟩
  rw [hw1] at b1 f1
  obtain ⟨w', r1, r2, r3, _⟩ := retP b1 rfl f1 (Nat.le_refl _) pv0 nl nl nl
  simp only [pv0] at r1 r2
  have c1 : w1.cell? ⟨b, 1, none⟩ = some (.slice pq.1 pq.2.1 pq.2.2) := (h.fr f1 (by simp)).tbl.cell 1
  have hl := h.plen
  refine ⟨w', g15_call ?_, r3⟩
  by_cases k0 : k < 0
  · have k1 : decide (k < 0) = true := by simp [k0]
    unfold g15
    simp only [hw1, k1, r1, r2, obs, asP_pointer, asB_bool, asI_int, asS_string, asSl_slice, asM_map, asTup0, asTup1, asTup2, asTup3, asTup4, asTup5, asTup6, asTup7, asTup8, asTup9, asAgg2, asAgg3, asAgg4, asAgg5, asAgg6, asAgg7, asAgg8, asAgg9, asAgg12, getD0, getD1, getD2, getD3, getD4, getD5, getD6, getD7, getD8, getD9, getD10, getD11, getD12, getD13, getD14, getD15, getD16, getD17, getD18, getD19, Bool.not_true, Bool.not_false, Bool.false_eq_true, Bool.true_eq_false, ↓reduceIte, decide_true, decide_false, Option.isNone_some, Option.isNone_none, Option.isSome_some, Option.isSome_none, beq_self_eq_true, bne_self_eq_false, Bool.and_true, Bool.true_and, Bool.and_false, Bool.false_and, not_true_eq_false, not_false_eq_true]
    rfl
  · have k1 : decide (k < 0) = false := by simp; omega
    have k2 : decide (k ≥ (pq.2.1 : Int)) = true := by simp; omega
    unfold g15
    simp only [hw1, k1, addr_add, Nat.zero_add, c1, k2, r1, r2, obs, asP_pointer, asB_bool, asI_int, asS_string, asSl_slice, asM_map, asTup0, asTup1, asTup2, asTup3, asTup4, asTup5, asTup6, asTup7, asTup8, asTup9, asAgg2, asAgg3, asAgg4, asAgg5, asAgg6, asAgg7, asAgg8, asAgg9, asAgg12, getD0, getD1, getD2, getD3, getD4, getD5, getD6, getD7, getD8, getD9, getD10, getD11, getD12, getD13, getD14, getD15, getD16, getD17, getD18, getD19, Bool.not_true, Bool.not_false, Bool.false_eq_true, Bool.true_eq_false, ↓reduceIte, decide_true, decide_false, Option.isNone_some, Option.isNone_none, Option.isSome_some, Option.isSome_none, beq_self_eq_true, bne_self_eq_false, Bool.and_true, Bool.true_and, Bool.and_false, Bool.false_and, not_true_eq_false, not_false_eq_true]
    rfl

theorem part15 (h : Raw w D b c nq pq ns es next count) {k : Nat} (hk : k < es.length) :
    ∃ qi qr qt w', callF Try.prog 15 #[.pointer (some ⟨b, 0, none⟩), .int .i64 (k : Int)] w = some (.tuple #[es[k].v.arg qi qr qt, .bool true], w') ∧ Fr [] w w' ∧ Own w' 3 1 qi (intsV' es[k].v.isr) ∧ Own w' 3 1 qr (intsV' es[k].v.rep) ∧ Own w' 3 1 qt (intsV' es[k].v.tgt) ∧ (∀ y, y ∈ blkOf qi ∨ y ∈ blkOf qr ∨ y ∈ blkOf qt → w.heap.size ≤ y) ∧
      (∀ y ∈ blkOf qi, y ∉ blkOf qr ∧ y ∉ blkOf qt) ∧ ∀ y ∈ blkOf qr, y ∉ blkOf qt := by
  obtain ⟨b1, f1⟩ := zero30 w
  obtain ⟨w1, hw1⟩ : ∃ w1, w.alloc (.cells #[.int .i64 0, .int .i64 0, .int .i64 0, .slice none 0 0, .slice none 0 0, .slice none 0 0] 30) = w1 := ⟨_, rfl⟩
  rw [hw1] at b1 f1
  have R1 := h.fr f1 (by simp)
  have c1 : w1.cell? ⟨b, 1, none⟩ = some (.slice pq.1 pq.2.1 pq.2.2) := R1.tbl.cell 1
  have hl := h.plen
  obtain ⟨g, o, ha, _⟩ := R1.part_addr hk
  have hok := R1.ok _ (List.getElem_mem hk)
  have hcells := fun j (hj : j < 6) => R1.part_cell hk ha (j := j) hj
  obtain ⟨pe, hpe⟩ : ∃ pe, es[k] = pe := ⟨_, rfl⟩
  rw [hpe] at hok hcells ⊢
  have ld : ldN w1 ⟨g, o, none⟩ 0 6 = some pe.cs := ldN_of_cells (cs := pe.cs) (i := 0) fun j hj => by
    have hj' : j < 6 := hj
    rw [addr_add]
    simp only [Nat.zero_add]
    rw [hcells j hj']
    exact List.getElem?_eq_getElem hj
  obtain ⟨w2, s2, b2, f2, _⟩ := newP w1 pe.v pe.qi pe.qr pe.qt
  have fd := Fr.drew [] w2
  have F3 : Fr [] w1 w2.drew := (Fr.mono (Fr.app f2 fd) (by have z0_ := Fr.size f2; have z1_ := Fr.size fd; intro y_ hy_ hl_; grind [blkOf]))
  have b3 := b2.fr fd (by simp)
  have hok3 := hok.fr F3 (by simp) (fun _ => id)
  obtain ⟨qi, w4, e4, o4, f4, n4⟩ := clone36 hok3.oi.slC (fun hh => (hok3.oi.empty hh).2.1) hok3.len.1
  have hok4 := hok3.fr f4 (by simp) (fun _ => id)
  obtain ⟨qr, w5, e5, o5, f5, n5⟩ := clone36 hok4.or_.slC (fun hh => (hok4.or_.empty hh).2.1) hok4.len.2.1
  have hok5 := hok4.fr f5 (by simp) (fun _ => id)
  obtain ⟨qt, w6, e6, o6, f6, n6⟩ := clone36 hok5.ot.slC (fun hh => (hok5.ot.empty hh).2.1) hok5.len.2.2
  have b4 := b3.fr f4 (by simp)
  have b5 := b4.fr f5 (by simp)
  have b6 := b5.fr f6 (by simp)
  obtain ⟨w7, s7, b7, f7⟩ := blk_put b6 (i := 3) (v := .slice qi.1 qi.2.1 qi.2.2) (by simp [PV.cs]) rfl
  obtain ⟨w8, s8, b8, f8⟩ := blk_put b7 (i := 4) (v := .slice qr.1 qr.2.1 qr.2.2) (by simp [PV.cs]) rfl
  obtain ⟨w9, s9, b9, f9⟩ := blk_put b8 (i := 5) (v := .slice qt.1 qt.2.1 qt.2.2) (by simp [PV.cs]) rfl
  have b9' : Blk w9 w1.heap.size (pe.v.cs qi qr qt) 30 := b9
  have l9 := b9'.ldN (n := 6) rfl
  simp only [PV.cs] at l9
  have z1 := f1.size
  have z2 := f2.size
  have zd : w2.drew.heap.size = w2.heap.size := rfl
  have z4 := f4.size
  have z5 := f5.size
  have z6 := f6.size
  have lb2 := b2.lt
  have lb1 := b1.lt
  have F6 : Fr [] w w6 := (Fr.mono (Fr.app (Fr.app (Fr.app (Fr.app (Fr.app f1 f2) fd) f4) f5) f6) (by have z0_ := Fr.size f1; have z1_ := Fr.size f2; have z2_ := Fr.size fd; have z3_ := Fr.size f4; have z4_ := Fr.size f5; have z5_ := Fr.size f6; intro y_ hy_ hl_; grind [blkOf]))
  have F79 : Fr [w1.heap.size] w6 w9 := ((f7.app f8).app f9).mono (by intro y hy _; simpa using hy)
  have F9 : Fr [] w w9 := (F6.app F79).mono (by intro y hy hl; simp at hy; omega)
  have F26 : Fr [] w1 w6 := (Fr.mono (Fr.app (Fr.app (Fr.app (Fr.app f2 fd) f4) f5) f6) (by have z0_ := Fr.size f2; have z1_ := Fr.size fd; have z2_ := Fr.size f4; have z3_ := Fr.size f5; have z4_ := Fr.size f6; intro y_ hy_ hl_; grind [blkOf]))
  have b19 := (b1.fr F26 (by simp)).fr F79 (by simp; omega)
  obtain ⟨w', r1, r2, r3, r4⟩ := retP b19 rfl F9 (Nat.le_refl _) pe.v qi qr qt
  have p3 : w2.drew.cell? ⟨w1.heap.size, 3, none⟩ = some (.slice pe.qi.1 pe.qi.2.1 pe.qi.2.2) := b3.cell 3
  have p4 : w2.drew.cell? ⟨w1.heap.size, 4, none⟩ = some (.slice pe.qr.1 pe.qr.2.1 pe.qr.2.2) := b3.cell 4
  have p5 : w2.drew.cell? ⟨w1.heap.size, 5, none⟩ = some (.slice pe.qt.1 pe.qt.2.1 pe.qt.2.2) := b3.cell 5
  have q4 : w4.cell? ⟨w1.heap.size, 4, none⟩ = some (.slice pe.qr.1 pe.qr.2.1 pe.qr.2.2) := b4.cell 4
  have q5 : w4.cell? ⟨w1.heap.size, 5, none⟩ = some (.slice pe.qt.1 pe.qt.2.1 pe.qt.2.2) := b4.cell 5
  have u5 : w5.cell? ⟨w1.heap.size, 5, none⟩ = some (.slice pe.qt.1 pe.qt.2.1 pe.qt.2.2) := b5.cell 5
  have lt4 := own_lt' o4
  have lt5 := own_lt' o5
  have FF : Fr [w.heap.size, w1.heap.size] w6 w' := (F79.app r4).mono (by intro y hy _; simp at hy ⊢; omega)
  have ne : ∀ {q : Sh} {xs : List Value}, Own w6 3 1 q xs → (∀ y ∈ blkOf q, w2.heap.size ≤ y) → Own w' 3 1 q xs := fun ho hq => ho.fr FF (fun y hy hm => by have := hq y hy; simp at hm; omega)
  have G4 : ∀ y ∈ blkOf qi, w2.heap.size ≤ y := fun y hy => by have := n4 y hy; omega
  have G5 : ∀ y ∈ blkOf qr, w2.heap.size ≤ y := fun y hy => by have := n5 y hy; omega
  have G6 : ∀ y ∈ blkOf qt, w2.heap.size ≤ y := fun y hy => by have := n6 y hy; omega
  refine ⟨qi, qr, qt, w', g15_call ?_, r3, ne ((o4.fr f5 (by simp)).fr f6 (by simp)) G4, ne (o5.fr f6 (by simp)) G5, ne o6 G6, ?_, ?_, ?_⟩
  · have k1 : decide ((k : Int) < 0) = false := by simp
    have k2 : decide ((k : Int) ≥ (pq.2.1 : Int)) = false := by simp; omega
    simp only [PE.cs, PV.cs] at ld
    unfold g15
    simp only [hw1, k1, addr_add, Nat.zero_add, c1, k2, ha, ld, s2, p3, p4, p5, e4, q4, q5, g15_j58, g15_j63, g15_j77, g15_j92, e5, u5, e6, ite_self, s7, s8, s9, l9, r1, r2, obs, asP_pointer, asB_bool, asI_int, asS_string, asSl_slice, asM_map, asTup0, asTup1, asTup2, asTup3, asTup4, asTup5, asTup6, asTup7, asTup8, asTup9, asAgg2, asAgg3, asAgg4, asAgg5, asAgg6, asAgg7, asAgg8, asAgg9, asAgg12, getD0, getD1, getD2, getD3, getD4, getD5, getD6, getD7, getD8, getD9, getD10, getD11, getD12, getD13, getD14, getD15, getD16, getD17, getD18, getD19, Bool.not_true, Bool.not_false, Bool.false_eq_true, Bool.true_eq_false, ↓reduceIte, decide_true, decide_false, Option.isNone_some, Option.isNone_none, Option.isSome_some, Option.isSome_none, beq_self_eq_true, bne_self_eq_false, Bool.and_true, Bool.true_and, Bool.and_false, Bool.false_and, not_true_eq_false, not_false_eq_true]
    rfl
  · intro y hy
    rcases hy with hy | hy | hy
    · have := G4 y hy; omega
    · have := G5 y hy; omega
    · have := G6 y hy; omega
  · intro y hy
    have := lt4 y hy
    exact ⟨fun hm => by have := n5 y hm; omega, fun hm => by have := n6 y hm; omega⟩
  · intro y hy hm
    have := lt5 y hy
    have := n6 y hm
    omega
end
end Go.Proofs.Ytjcenfgmpbeldaa
