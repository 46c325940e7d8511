/-
  ImageO: lemmas on what Go functions of this seat come to (for whatever arguments, as each says). No condition but those that stand in each lemma.
-/
import Derived.Test.YtjcenfgmpbeldaaImageN
namespace Go.Proofs.Ytjcenfgmpbeldaa
open Go Go.Ev
set_option maxRecDepth 100000
set_option linter.unusedVariables false
set_option linter.unusedSimpArgs false

/-- a command -/
structure CV where
  k : Int
  nd : Int
  pt : Int
  ep : Int
  vr : Int
  ls : List Int
def CV.cs (x : CV) (q : Sh) : List Value := [.int .i64 x.k, .int .i64 x.nd, .int .i64 x.pt, .int .i64 x.ep, .int .i64 x.vr, .slice q.1 q.2.1 q.2.2]
def CV.arg (x : CV) (q : Sh) : Value := .agg #[.int .i64 x.k, .int .i64 x.nd, .int .i64 x.pt, .int .i64 x.ep, .int .i64 x.vr, .slice q.1 q.2.1 q.2.2]

section
variable {w : World} {D : Nat → Prop} {b c : Nat} {nq pq : Sh} {ns : List NV} {es : List PE} {next count : Int}

/-- the command spilled, and counted -/
theorem apply_pre (h : Raw w D b c nq pq ns es next count) (x : CV) (q : Sh) :
    ∃ w1 w5, w.alloc (.cells #[.int .i64 x.k, .int .i64 x.nd, .int .i64 x.pt, .int .i64 x.ep, .int .i64 x.vr, .slice q.1 q.2.1 q.2.2] 33) = w1 ∧ w1.cell? ⟨b, 3, none⟩ = some (.int .i64 count) ∧ st1 w1 ⟨b, 3, none⟩ (.int .i64 (IntKind.i64.wrap (count + 1))) = some w5 ∧
      Raw w5 D b c nq pq ns es next (IntKind.i64.wrap (count + 1)) ∧ Blk w5 w.heap.size (x.cs q) 33 ∧ Fr [b] w w5 ∧ w.heap.size < w5.heap.size := by
  have f1 : Fr [] w (w.alloc (.cells #[.int .i64 x.k, .int .i64 x.nd, .int .i64 x.pt, .int .i64 x.ep, .int .i64 x.vr, .slice q.1 q.2.1 q.2.2] 33)) := Fr.alloc _
  have b1 : Blk (w.alloc (.cells #[.int .i64 x.k, .int .i64 x.nd, .int .i64 x.pt, .int .i64 x.ep, .int .i64 x.vr, .slice q.1 q.2.1 q.2.2] 33)) w.heap.size (x.cs q) 33 := Blk.new w (x.cs q) 33
  obtain ⟨w1, hw1⟩ : ∃ w1, w.alloc (.cells #[.int .i64 x.k, .int .i64 x.nd, .int .i64 x.pt, .int .i64 x.ep, .int .i64 x.vr, .slice q.1 q.2.1 q.2.2] 33) = w1 := ⟨_, rfl⟩
  rw [hw1] at f1 b1
  have R1 := h.fr f1 (by simp)
  obtain ⟨w5, s5, R5, f5⟩ := R1.setC (IntKind.i64.wrap (count + 1))
  have lb := h.lt b h.rb
  have b5 := b1.fr f5 (by simp; omega)
  have := b5.lt
  exact ⟨w1, w5, hw1, R1.tbl.cell 3, s5, R5, b5, (f1.app f5).mono (by intro y hy _; simpa using hy), this⟩

theorem chgD {w w5 w' : World} {b : Nat} {D : Nat → Prop} (hb : D b) (f5 : Fr [b] w w5) (c : ∃ S, Fr S w5 w' ∧ ∀ y ∈ S, D y) : ∃ S, Fr S w w' ∧ ∀ y ∈ S, D y := by
  obtain ⟨S, f, hS⟩ := c
  exact ⟨b :: S, (f5.app f).mono (by intro y hy _; simpa using hy), by intro y hy; rcases List.mem_cons.mp hy with rfl | hy; exact hb; exact hS y hy⟩

theorem apply_join (h : Raw w D b c nq pq ns es next count) (x : CV) (q : Sh) (hx : x.k = 1) {n : Nat} (hn : n < ns.length) (hxn : x.nd = (n : Int)) (hnm : ∀ e ∈ es, Names ns e.v.isr) (hel : es.length ≤ 1000) :
    ∃ w', callF Try.prog 13 #[.pointer (some ⟨b, 0, none⟩), x.arg q] w = some (.int .i64 (if x.ep ≤ ns[n].cm then 5 else 0), w') ∧
      Raw w' D b c nq pq (if x.ep ≤ ns[n].cm then ns else ns.set n { ns[n] with al := true, cm := x.ep }) (if x.ep ≤ ns[n].cm then es else es.map (onE (joinV (ns.set n { ns[n] with al := true, cm := x.ep }) (n : Int)))) next (IntKind.i64.wrap (count + 1)) ∧ (∃ S, Fr S w w' ∧ ∀ y ∈ S, D y) := by
  obtain ⟨w1, w5, hw1, c3, s5, R5, b5, f5, hz⟩ := apply_pre h x q
  have fd := Fr.drew [] w5
  have Rd := R5.fr fd (by simp)
  have bd := b5.fr fd (by simp)
  obtain ⟨w6, e6, R6, ch⟩ := join37 Rd hn x.ep hnm hel
  have k0 : w5.cell? ⟨w.heap.size, 0, none⟩ = some (.int .i64 x.k) := b5.cell 0
  have d0 : w5.drew.cell? ⟨w.heap.size, 0, none⟩ = some (.int .i64 x.k) := bd.cell 0
  have d1 : w5.drew.cell? ⟨w.heap.size, 1, none⟩ = some (.int .i64 x.nd) := bd.cell 1
  have d3 : w5.drew.cell? ⟨w.heap.size, 3, none⟩ = some (.int .i64 x.ep) := bd.cell 3
  have p0 : w5.drew.cell? ⟨b, 0, none⟩ = some (.slice nq.1 nq.2.1 nq.2.2) := Rd.tbl.cell 0
  have hl := h.nlen
  have q1 : (x.k == 1) = true := by simp [hx]
  have q2 : decide (x.nd < 0) = false := by simp; omega
  have q3 : decide (x.nd ≥ (nq.2.1 : Int)) = false := by simp; omega
  obtain ⟨S, fS, hS⟩ := ch
  refine ⟨w6, g13_call ?_, R6, chgD h.rb f5 ⟨S, by simpa using fd.app fS, hS⟩⟩
  rw [← hxn] at e6
  unfold g13
  simp only [hw1, addr_add, Nat.zero_add, c3, s5, k0, q1, g13_j9, d1, q2, p0, q3, g13_j6, d0, d3, e6, obs, asP_pointer, asB_bool, asI_int, asS_string, asSl_slice, asM_map, asTup0, asTup1, asTup2, asTup3, asTup4, asTup5, asTup6, asTup7, asTup8, asTup9, asAgg2, asAgg3, asAgg4, asAgg5, asAgg6, asAgg7, asAgg8, asAgg9, asAgg12, getD0, getD1, getD2, getD3, getD4, getD5, getD6, getD7, getD8, getD9, getD10, getD11, getD12, getD13, getD14, getD15, getD16, getD17, getD18, getD19, Bool.not_true, Bool.not_false, Bool.false_eq_true, Bool.true_eq_false, ↓reduceIte, decide_true, decide_false, Option.isNone_some, Option.isNone_none, Option.isSome_some, Option.isSome_none, beq_self_eq_true, bne_self_eq_false, Bool.and_true, Bool.true_and, Bool.and_false, Bool.false_and, not_true_eq_false, not_false_eq_true]

theorem apply_block (h : Raw w D b c nq pq ns es next count) (x : CV) (q : Sh) (hx : x.k = 5) {n : Nat} (hn : n < ns.length) (hxn : x.nd = (n : Int)) (h0 : 0 ≤ next ∧ next ≤ 1001) :
    ∃ w', callF Try.prog 13 #[.pointer (some ⟨b, 0, none⟩), x.arg q] w = some (.int .i64 (if 1001 - next < 10 then 17 else 0), w') ∧
      Raw w' D b c nq pq (if 1001 - next < 10 then ns else ns.set n { ns[n] with bk := next }) es (if 1001 - next < 10 then next else next + 10) (IntKind.i64.wrap (count + 1)) ∧ (∃ S, Fr S w w' ∧ ∀ y ∈ S, D y) := by
  obtain ⟨w1, w5, hw1, c3, s5, R5, b5, f5, hz⟩ := apply_pre h x q
  have fd := Fr.drew [] w5
  have Rd := R5.fr fd (by simp)
  have bd := b5.fr fd (by simp)
  obtain ⟨w6, e6, R6, ch⟩ := grant41 Rd h0 hn
  have k0 : w5.cell? ⟨w.heap.size, 0, none⟩ = some (.int .i64 x.k) := b5.cell 0
  have d0 : w5.drew.cell? ⟨w.heap.size, 0, none⟩ = some (.int .i64 x.k) := bd.cell 0
  have d1 : w5.drew.cell? ⟨w.heap.size, 1, none⟩ = some (.int .i64 x.nd) := bd.cell 1
  have p0 : w5.drew.cell? ⟨b, 0, none⟩ = some (.slice nq.1 nq.2.1 nq.2.2) := Rd.tbl.cell 0
  have hl := h.nlen
  have q1 : (x.k == 1) = false := by simp [hx]
  have q12 : (x.k == 2) = false := by simp [hx]
  have q13 : (x.k == 3) = false := by simp [hx]
  have q14 : (x.k == 4) = false := by simp [hx]
  have q15 : (x.k == 5) = true := by simp [hx]
  have q2 : decide (x.nd < 0) = false := by simp; omega
  have q3 : decide (x.nd ≥ (nq.2.1 : Int)) = false := by simp; omega
  obtain ⟨S, fS, hS⟩ := ch
  refine ⟨w6, g13_call ?_, R6, chgD h.rb f5 ⟨S, by simpa using fd.app fS, hS⟩⟩
  rw [← hxn] at e6
  unfold g13
  simp only [hw1, addr_add, Nat.zero_add, c3, s5, k0, q1, q12, q15, g13_j9, d1, q2, p0, q3, g13_j6, d0, q13, q14, e6, obs, asP_pointer, asB_bool, asI_int, asS_string, asSl_slice, asM_map, asTup0, asTup1, asTup2, asTup3, asTup4, asTup5, asTup6, asTup7, asTup8, asTup9, asAgg2, asAgg3, asAgg4, asAgg5, asAgg6, asAgg7, asAgg8, asAgg9, asAgg12, getD0, getD1, getD2, getD3, getD4, getD5, getD6, getD7, getD8, getD9, getD10, getD11, getD12, getD13, getD14, getD15, getD16, getD17, getD18, getD19, Bool.not_true, Bool.not_false, Bool.false_eq_true, Bool.true_eq_false, ↓reduceIte, decide_true, decide_false, Option.isNone_some, Option.isNone_none, Option.isSome_some, Option.isSome_none, beq_self_eq_true, bne_self_eq_false, Bool.and_true, Bool.true_and, Bool.and_false, Bool.false_and, not_true_eq_false, not_false_eq_true]
end

theorem isort_set (l : List Int) (x : Int) : x ∈ isort l ↔ x ∈ l := (isort_perm l).mem_iff

theorem awake12 (w : World) : ∃ w', callF Try.prog 12 #[] w = some (.bool true, w') ∧ Fr [] w w' := by
  obtain ⟨w1, D, b, ct, nq, pq, es, e1, R1, hes, f1, hD⟩ := new11 w (n := 3) (p := 2) (c := 2) (by decide) (by decide) (by decide)
  have hel : es.length = 2 := by have := congrArg List.length hes; simpa [newParts] using this
  have hv : ∀ k (hk : k < es.length), es[k].v = newPart 3 2 k := by
    intro k hk
    have : (es.map (·.v))[k]'(by simpa using hk) = (newParts 3 2 2)[k]'(by simp [newParts]; omega) := by simp only [hes]
    simpa [newParts] using this
  have hmem : ∀ e ∈ es, Names (List.replicate 3 nv0) e.v.isr := by
    intro e he
    obtain ⟨k, hk, rfl⟩ := List.getElem_of_mem he
    rw [hv k hk]
    intro x hx
    have hx : x ∈ onR 3 2 k := (isort_set _ _).mp hx
    simp [onR] at hx
    obtain ⟨i, hi, rfl⟩ := hx
    have : (k + i) % 3 < 3 := Nat.mod_lt _ (by decide)
    simp
    omega
  obtain ⟨w2, e2, R2, S, f2, hS⟩ := apply_join R1 ⟨1, 1, 0, 1, 0, []⟩ nl rfl (n := 1) (by decide) rfl hmem (by omega)
  have hcm : ¬ ((1 : Int) ≤ (List.replicate 3 nv0)[1].cm) := by decide
  simp only [hcm, if_false] at e2 R2
  obtain ⟨ns', hns'⟩ : ∃ ns', (List.replicate 3 nv0).set 1 { (List.replicate 3 nv0)[1] with al := true, cm := (⟨1, 1, 0, 1, 0, []⟩ : CV).ep } = ns' := ⟨_, rfl⟩
  rw [hns'] at R2
  have h1 : 1 < (es.map (onE (joinV ns' ((1 : Nat) : Int)))).length := by simp [hel]
  obtain ⟨qi, qr, qt, w3, e3, f3, oi, _⟩ := part15 R2 h1
  have hv1 : (es.map (onE (joinV ns' ((1 : Nat) : Int))))[1].v = electV ns' (newPart 3 2 1) := by
    rw [List.getElem_map]
    have hm : (1 : Int) ∈ (newPart 3 2 1).isr := (isort_set _ _).mpr (by decide)
    show joinV ns' ((1 : Nat) : Int) es[1].v = _
    rw [hv 1 (by omega)]
    unfold joinV
    rw [if_pos (.inr ⟨by decide, hm⟩)]
  rw [hv1] at e3 oi
  have his : (newPart 3 2 1).isr = [1, 2] := by
    show isort (onR 3 2 1) = [1, 2]
    exact (isort_of (l := onR 3 2 1) (l' := [1, 2]) (by decide) (by decide)).symm
  have hld : (electV ns' (newPart 3 2 1)).ld = 1 := by
    unfold electV
    rw [his, ← hns']
    rfl
  have hep : (electV ns' (newPart 3 2 1)).ep = 1 := by rfl
  have hle : (electV ns' (newPart 3 2 1)).isr.length = 2 := by show (newPart 3 2 1).isr.length = 2; rw [his]; rfl
  obtain ⟨pv, hpv⟩ : ∃ pv, electV ns' (newPart 3 2 1) = pv := ⟨_, rfl⟩
  rw [hpv] at e3 oi hld hep hle
  have hql : qi.2.1 = 2 := by have := oi.len; simp at this; omega
  obtain ⟨w4, s4, b4, f4, _⟩ := newP w3 pv qi qr qt
  have d0 : w4.cell? ⟨w3.heap.size, 0, none⟩ = some (.int .i64 pv.ld) := b4.cell 0
  have d1 : w4.cell? ⟨w3.heap.size, 1, none⟩ = some (.int .i64 pv.ep) := b4.cell 1
  have d3 : w4.cell? ⟨w3.heap.size, 3, none⟩ = some (.slice qi.1 qi.2.1 qi.2.2) := b4.cell 3
  have e2' : callF Try.prog 13 #[.pointer (some ⟨b, 0, none⟩), .agg #[.int .i64 1, .int .i64 1, .int .i64 0, .int .i64 1, .int .i64 0, .slice none 0 0]] w1 = some (.int .i64 0, w2) := e2
  have e3' : callF Try.prog 15 #[.pointer (some ⟨b, 0, none⟩), .int .i64 1] w2 = some (.tuple #[.agg #[.int .i64 pv.ld, .int .i64 pv.ep, .int .i64 pv.vr, .slice qi.1 qi.2.1 qi.2.2, .slice qr.1 qr.2.1 qr.2.2, .slice qt.1 qt.2.1 qt.2.2], .bool true], w3) := e3
  have e1' : callF Try.prog 11 #[.int .i64 3, .int .i64 2, .int .i64 2] w = some (.tuple #[.pointer (some ⟨b, 0, none⟩), .int .i64 0], w1) := e1
  have kk : ((0 : Int) != 0) = false := rfl
  have k1 : (pv.ld == 1) = true := by rw [hld]; rfl
  have k2 : (pv.ep == 1) = true := by rw [hep]; rfl
  have k3 : (((qi.2.1 : Nat) : Int) == 2) = true := by rw [hql]; rfl
  refine ⟨w4, g12_call ?_, (((f1.app f2).app f3).app f4).mono (by intro y hy hl; simp at hy; have := hD y (hS y hy); omega)⟩
  unfold g12
  simp only [e1', kk, e2', e3', s4, d0, k1, addr_add, Nat.zero_add, d1, k2, d3, k3, obs, asP_pointer, asB_bool, asI_int, asS_string, asSl_slice, asM_map, asTup0, asTup1, asTup2, asTup3, asTup4, asTup5, asTup6, asTup7, asTup8, asTup9, asAgg2, asAgg3, asAgg4, asAgg5, asAgg6, asAgg7, asAgg8, asAgg9, asAgg12, getD0, getD1, getD2, getD3, getD4, getD5, getD6, getD7, getD8, getD9, getD10, getD11, getD12, getD13, getD14, getD15, getD16, getD17, getD18, getD19, Bool.not_true, Bool.not_false, Bool.false_eq_true, Bool.true_eq_false, ↓reduceIte, decide_true, decide_false, Option.isNone_some, Option.isNone_none, Option.isSome_some, Option.isSome_none, beq_self_eq_true, bne_self_eq_false, Bool.and_true, Bool.true_and, Bool.and_false, Bool.false_and, not_true_eq_false, not_false_eq_true]
end Go.Proofs.Ytjcenfgmpbeldaa
