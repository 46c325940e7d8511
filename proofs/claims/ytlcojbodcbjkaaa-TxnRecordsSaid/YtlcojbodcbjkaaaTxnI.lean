/-
  TxnI: lemmas on what Go functions of this seat come to (for whatever arguments, as each says). No condition but those that stand in each lemma.
-/
import Derived.Test.YtlcojbodcbjkaaaTxnH
import Derived.Test.YtlcojbodcbjkaaaTxnSp
namespace Go.Proofs.Ytlcojbodcbjkaaa
open Go Go.Ev
set_option maxRecDepth 100000
set_option linter.unusedVariables false
set_option linter.unusedSimpArgs false

theorem blk_put {w : World} {p : Nat} {cs : List Value} {T : TypeId} (h : Blk w p cs T) {i : Nat} (hi : i < cs.length) {v : Value} (hv : v.oneCell' = true) :
    ∃ w', st1 w ⟨p, i, none⟩ v = some w' ∧ Blk w' p (cs.set i v) T ∧ Fr [p] w w' := ⟨_, h.st1 hi hv, h.set i v, Fr.setCell⟩

def isort (l : List Int) : List Int := l.mergeSort
theorem isort_of {l l' : List Int} (h : l'.Perm l) (hs : l'.Pairwise (· ≤ ·)) : l' = isort l := by
  have h1 : (isort l).Pairwise (· ≤ ·) := by
    have := List.pairwise_mergeSort (le := fun a b : Int => decide (a ≤ b)) (by intro a b c; simp; omega) (by intro a b; simp; omega) l
    unfold isort
    exact this.imp (by intro a b; simp)
  exact List.Perm.eq_of_pairwise (by intro a b _ _ h1 h2; omega) hs h1 (h.trans (List.mergeSort_perm l _).symm)
theorem isort_perm (l : List Int) : (isort l).Perm l := List.mergeSort_perm l _
theorem isort_up (l : List Int) : (isort l).Pairwise (· ≤ ·) := by
  have := List.pairwise_mergeSort (le := fun a b : Int => decide (a ≤ b)) (by intro a b c; simp; omega) (by intro a b; simp; omega) l
  unfold isort
  exact this.imp (by intro a b; simp)

def addAll (l ps : List Int) : List Int := ps.foldl (fun l p => if p ∈ l then l else l ++ [p]) l
theorem addAll_snoc (l ps : List Int) (p : Int) : addAll l (ps ++ [p]) = if p ∈ addAll l ps then addAll l ps else addAll l ps ++ [p] := by unfold addAll; rw [List.foldl_append]; rfl
theorem addAll_len (l ps : List Int) : (addAll l ps).length ≤ l.length + ps.length := by
  unfold addAll
  induction ps generalizing l with
  | nil => simp
  | cons p ps ih =>
    rw [List.foldl_cons]
    have := ih (if p ∈ l then l else l ++ [p])
    have h2 : (if p ∈ l then l else l ++ [p]).length ≤ l.length + 1 := by split <;> simp
    simp only [List.length_cons]
    omega

def stepT (r : RV) (t : TV) : TV :=
  if r.k = 1 then { t with st := 1, inc := r.inc, pid := r.pid, ep := r.ep, parts := [] }
  else if r.k = 2 then { t with st := 2, parts := isort (addAll t.parts r.parts) }
  else if r.k = 3 then { t with st := 3, last := t.ep, lpid := t.pid, com := r.com }
  else if r.k = 4 then { t with st := 4, ep := IntKind.i64.wrap (t.last + 2), parts := [] }
  else t

structure St (w : World) (g : Nat) (r : RV) (rq : Option Addr × Nat × Nat) (p : Nat) (v : TV) (q : Option Addr × Nat × Nat) : Prop where
  bb : Blk w g (r.cs rq) 30
  pe : Blk w p (v.cs q) 46
  ow : Own w 3 1 q (intsV' v.parts)
  sl : SlC w 1 rq (intsV' r.parts)
  ap : 0 < r.parts.length → ∀ y ∈ blkOf rq, y ≠ p ∧ y ∉ blkOf q

section
variable {w0 w : World} {r : RV} {rq q : Option Addr × Nat × Nat} {p : Nat} {v : TV}

theorem j8_init (h : St w w0.heap.size r rq p v q) (hk : r.k = 1) : ∃ w', g13_j8 w0 (some ⟨p, 0, none⟩) w = some (.tuple #[], w') ∧ Blk w' p ((stepT r v).cs (none, 0, 0)) 46 ∧ Fr [p] w w' := by
  have ng : w0.heap.size ≠ p := h.bb.ne h.pe (by decide)
  have fd := Fr.drew [] w
  have bd := h.bb.fr fd (by simp)
  obtain ⟨w1, s1, p1, f1⟩ := blk_put (h.pe.fr fd (by simp)) (i := 0) (v := .int .i64 1) (by simp [TV.cs]) rfl
  obtain ⟨w2, s2, p2, f2⟩ := blk_put p1 (i := 1) (v := .int .i64 r.inc) (by simp [TV.cs]) rfl
  obtain ⟨w3, s3, p3, f3⟩ := blk_put p2 (i := 2) (v := .int .u64 r.pid) (by simp [TV.cs]) rfl
  obtain ⟨w4, s4, p4, f4⟩ := blk_put p3 (i := 3) (v := .int .i64 r.ep) (by simp [TV.cs]) rfl
  obtain ⟨w5, s5, p5, f5⟩ := blk_put p4 (i := 4) (v := .slice none 0 0) (by simp [TV.cs]) rfl
  have b1 := bd.fr f1 (by simp; exact ng)
  have b2 := b1.fr f2 (by simp; exact ng)
  have b3 := b2.fr f3 (by simp; exact ng)
  have b4 := b3.fr f4 (by simp; exact ng)
  have k0 : w.cell? ⟨w0.heap.size, 0, none⟩ = some (.int .i64 r.k) := h.bb.cell 0
  have d2 : w.drew.cell? ⟨w0.heap.size, 2, none⟩ = some (.int .i64 r.inc) := bd.cell 2
  have d3 : w.drew.cell? ⟨w0.heap.size, 3, none⟩ = some (.int .u64 r.pid) := bd.cell 3
  have d4 : w.drew.cell? ⟨w0.heap.size, 4, none⟩ = some (.int .i64 r.ep) := bd.cell 4
  have e2 : w1.cell? ⟨w0.heap.size, 2, none⟩ = some (.int .i64 r.inc) := b1.cell 2
  have e3 : w1.cell? ⟨w0.heap.size, 3, none⟩ = some (.int .u64 r.pid) := b1.cell 3
  have e4 : w1.cell? ⟨w0.heap.size, 4, none⟩ = some (.int .i64 r.ep) := b1.cell 4
  have g3 : w2.cell? ⟨w0.heap.size, 3, none⟩ = some (.int .u64 r.pid) := b2.cell 3
  have g4 : w2.cell? ⟨w0.heap.size, 4, none⟩ = some (.int .i64 r.ep) := b2.cell 4
  have h4 : w3.cell? ⟨w0.heap.size, 4, none⟩ = some (.int .i64 r.ep) := b3.cell 4
  have hst : stepT r v = { v with st := 1, inc := r.inc, pid := r.pid, ep := r.ep, parts := [] } := by unfold stepT; rw [if_pos hk]
  rw [hst]
  have k1 : (r.k == 1) = true := by simp [hk]
  refine ⟨w5, ?_, p5, ((((((fd.app f1).app f2).app f3).app f4).app f5)).mono (by intro y hy hl; simpa using hy)⟩
  obtain ⟨L, hL⟩ : ∃ L, Region.schedule true (opsOf (cAt [1, 1, 1, 1, 1, 0, 1, 0] (bodyOf Try.f13))) (World.tape w (World.drawn w) (.order 13 8)) = L := ⟨_, rfl⟩
  unfold g13_j8
  simp only [k0, k1, g13_j43, g13_j46, g13_j48, g13_j53, g13_j68, g13_j70, g13_j76, g13_j95, g13_j115, g13_j116, g13_j123, g13_j131, g13_j148, g13_j161, g13_j171, obs, asP_pointer, asB_bool, asI_int, asS_string, asSl_slice, asM_map, asTup0, asTup1, asTup2, asTup3, asTup4, asTup5, asTup6, asTup7, asTup8, asTup9, asAgg2, asAgg3, asAgg4, asAgg5, asAgg6, asAgg7, asAgg8, asAgg9, asAgg12, getD0, getD1, getD2, getD3, getD4, getD5, getD6, getD7, getD8, getD9, getD10, getD11, getD12, getD13, getD14, getD15, getD16, getD17, getD18, getD19, Bool.not_true, Bool.not_false, Bool.false_eq_true, Bool.true_eq_false, ↓reduceIte, decide_true, decide_false, Option.isNone_some, Option.isNone_none, Option.isSome_some, Option.isSome_none, beq_self_eq_true, bne_self_eq_false, Bool.and_true, Bool.true_and, Bool.and_false, Bool.false_and, not_true_eq_false, not_false_eq_true]
  simp only [hL]
  simp only [addr_add, Nat.zero_add, d2, d3, d4, s1, e2, e3, e4, s2, g3, g4, s3, h4, s4, s5, ite_self, obs, asP_pointer, asB_bool, asI_int, asS_string, asSl_slice, asM_map, asTup0, asTup1, asTup2, asTup3, asTup4, asTup5, asTup6, asTup7, asTup8, asTup9, asAgg2, asAgg3, asAgg4, asAgg5, asAgg6, asAgg7, asAgg8, asAgg9, asAgg12, getD0, getD1, getD2, getD3, getD4, getD5, getD6, getD7, getD8, getD9, getD10, getD11, getD12, getD13, getD14, getD15, getD16, getD17, getD18, getD19, Bool.not_true, Bool.not_false, Bool.false_eq_true, Bool.true_eq_false, ↓reduceIte, decide_true, decide_false, Option.isNone_some, Option.isNone_none, Option.isSome_some, Option.isSome_none, beq_self_eq_true, bne_self_eq_false, Bool.and_true, Bool.true_and, Bool.and_false, Bool.false_and, not_true_eq_false, not_false_eq_true]

theorem j8_prep (h : St w w0.heap.size r rq p v q) (hk : r.k = 3) : ∃ w', g13_j8 w0 (some ⟨p, 0, none⟩) w = some (.tuple #[], w') ∧ Blk w' p ((stepT r v).cs q) 46 ∧ Fr [p] w w' := by
  have ng : w0.heap.size ≠ p := h.bb.ne h.pe (by decide)
  have fd := Fr.drew [] w
  have bd := h.bb.fr fd (by simp)
  have pd := h.pe.fr fd (by simp)
  obtain ⟨w1, s1, p1, f1⟩ := blk_put pd (i := 0) (v := .int .i64 3) (by simp [TV.cs]) rfl
  obtain ⟨w2, s2, p2, f2⟩ := blk_put p1 (i := 5) (v := .int .i64 v.ep) (by simp [TV.cs]) rfl
  obtain ⟨w3, s3, p3, f3⟩ := blk_put p2 (i := 6) (v := .int .u64 v.pid) (by simp [TV.cs]) rfl
  obtain ⟨w4, s4, p4, f4⟩ := blk_put p3 (i := 7) (v := .bool r.com) (by simp [TV.cs]) rfl
  have b1 := bd.fr f1 (by simp; exact ng)
  have b2 := b1.fr f2 (by simp; exact ng)
  have b3 := b2.fr f3 (by simp; exact ng)
  have k0 : w.cell? ⟨w0.heap.size, 0, none⟩ = some (.int .i64 r.k) := h.bb.cell 0
  have t3 : w.drew.cell? ⟨p, 3, none⟩ = some (.int .i64 v.ep) := pd.cell 3
  have t2 : w.drew.cell? ⟨p, 2, none⟩ = some (.int .u64 v.pid) := pd.cell 2
  have d6 : w.drew.cell? ⟨w0.heap.size, 6, none⟩ = some (.bool r.com) := bd.cell 6
  have e6 : w1.cell? ⟨w0.heap.size, 6, none⟩ = some (.bool r.com) := b1.cell 6
  have g6 : w2.cell? ⟨w0.heap.size, 6, none⟩ = some (.bool r.com) := b2.cell 6
  have h6 : w3.cell? ⟨w0.heap.size, 6, none⟩ = some (.bool r.com) := b3.cell 6
  have hst : stepT r v = { v with st := 3, last := v.ep, lpid := v.pid, com := r.com } := by unfold stepT; rw [if_neg (by omega), if_neg (by omega), if_pos hk]
  rw [hst]
  have k1 : (r.k == 1) = false := by simp [hk]
  have k2 : (r.k == 2) = false := by simp [hk]
  have k3 : (r.k == 3) = true := by simp [hk]
  refine ⟨w4, ?_, p4, (((((fd.app f1).app f2).app f3).app f4)).mono (by intro y hy hl; simpa using hy)⟩
  obtain ⟨L, hL⟩ : ∃ L, Region.schedule true (opsOf (cAt [1, 1, 1, 1, 1, 0, 1, 1, 1, 1, 1, 0] (bodyOf Try.f13))) (World.tape w (World.drawn w) (.order 13 19)) = L := ⟨_, rfl⟩
  unfold g13_j8
  simp only [k0, k1, k2, k3, g13_j253, g13_j268, g13_j277, obs, asP_pointer, asB_bool, asI_int, asS_string, asSl_slice, asM_map, asTup0, asTup1, asTup2, asTup3, asTup4, asTup5, asTup6, asTup7, asTup8, asTup9, asAgg2, asAgg3, asAgg4, asAgg5, asAgg6, asAgg7, asAgg8, asAgg9, asAgg12, getD0, getD1, getD2, getD3, getD4, getD5, getD6, getD7, getD8, getD9, getD10, getD11, getD12, getD13, getD14, getD15, getD16, getD17, getD18, getD19, Bool.not_true, Bool.not_false, Bool.false_eq_true, Bool.true_eq_false, ↓reduceIte, decide_true, decide_false, Option.isNone_some, Option.isNone_none, Option.isSome_some, Option.isSome_none, beq_self_eq_true, bne_self_eq_false, Bool.and_true, Bool.true_and, Bool.and_false, Bool.false_and, not_true_eq_false, not_false_eq_true]
  simp only [hL]
  simp only [addr_add, Nat.zero_add, t3, t2, d6, s1, e6, s2, g6, s3, h6, s4, ite_self, obs, asP_pointer, asB_bool, asI_int, asS_string, asSl_slice, asM_map, asTup0, asTup1, asTup2, asTup3, asTup4, asTup5, asTup6, asTup7, asTup8, asTup9, asAgg2, asAgg3, asAgg4, asAgg5, asAgg6, asAgg7, asAgg8, asAgg9, asAgg12, getD0, getD1, getD2, getD3, getD4, getD5, getD6, getD7, getD8, getD9, getD10, getD11, getD12, getD13, getD14, getD15, getD16, getD17, getD18, getD19, Bool.not_true, Bool.not_false, Bool.false_eq_true, Bool.true_eq_false, ↓reduceIte, decide_true, decide_false, Option.isNone_some, Option.isNone_none, Option.isSome_some, Option.isSome_none, beq_self_eq_true, bne_self_eq_false, Bool.and_true, Bool.true_and, Bool.and_false, Bool.false_and, not_true_eq_false, not_false_eq_true]

theorem j8_done (h : St w w0.heap.size r rq p v q) (hk : r.k = 4) : ∃ w', g13_j8 w0 (some ⟨p, 0, none⟩) w = some (.tuple #[], w') ∧ Blk w' p ((stepT r v).cs (none, 0, 0)) 46 ∧ Fr [p] w w' := by
  obtain ⟨w1, s1, p1, f1⟩ := blk_put h.pe (i := 0) (v := .int .i64 4) (by simp [TV.cs]) rfl
  obtain ⟨w2, s2, p2, f2⟩ := blk_put p1 (i := 3) (v := .int .i64 (IntKind.i64.wrap (v.last + 2))) (by simp [TV.cs]) rfl
  obtain ⟨w3, s3, p3, f3⟩ := blk_put p2 (i := 4) (v := .slice none 0 0) (by simp [TV.cs]) rfl
  have k0 : w.cell? ⟨w0.heap.size, 0, none⟩ = some (.int .i64 r.k) := h.bb.cell 0
  have t5 : w.cell? ⟨p, 5, none⟩ = some (.int .i64 v.last) := h.pe.cell 5
  have hst : stepT r v = { v with st := 4, ep := IntKind.i64.wrap (v.last + 2), parts := [] } := by unfold stepT; rw [if_neg (by omega), if_neg (by omega), if_neg (by omega), if_pos hk]
  rw [hst]
  have k1 : (r.k == 1) = false := by simp [hk]
  have k2 : (r.k == 2) = false := by simp [hk]
  have k3 : (r.k == 3) = false := by simp [hk]
  have k4 : (r.k == 4) = true := by simp [hk]
  refine ⟨w3, ?_, p3, ((f1.app f2).app f3).mono (by intro y hy hl; simpa using hy)⟩
  unfold g13_j8
  simp only [k0, k1, k2, k3, k4, addr_add, Nat.zero_add, t5, s1, s2, s3, obs, asP_pointer, asB_bool, asI_int, asS_string, asSl_slice, asM_map, asTup0, asTup1, asTup2, asTup3, asTup4, asTup5, asTup6, asTup7, asTup8, asTup9, asAgg2, asAgg3, asAgg4, asAgg5, asAgg6, asAgg7, asAgg8, asAgg9, asAgg12, getD0, getD1, getD2, getD3, getD4, getD5, getD6, getD7, getD8, getD9, getD10, getD11, getD12, getD13, getD14, getD15, getD16, getD17, getD18, getD19, Bool.not_true, Bool.not_false, Bool.false_eq_true, Bool.true_eq_false, ↓reduceIte, decide_true, decide_false, Option.isNone_some, Option.isNone_none, Option.isSome_some, Option.isSome_none, beq_self_eq_true, bne_self_eq_false, Bool.and_true, Bool.true_and, Bool.and_false, Bool.false_and, not_true_eq_false, not_false_eq_true]

theorem j8_none (h : St w w0.heap.size r rq p v q) (h1 : r.k ≠ 1) (h2 : r.k ≠ 2) (h3 : r.k ≠ 3) (h4 : r.k ≠ 4) : g13_j8 w0 (some ⟨p, 0, none⟩) w = some (.tuple #[], w) ∧ stepT r v = v := by
  have k0 : w.cell? ⟨w0.heap.size, 0, none⟩ = some (.int .i64 r.k) := h.bb.cell 0
  have k1 : (r.k == 1) = false := by simp [h1]
  have k2 : (r.k == 2) = false := by simp [h2]
  have k3 : (r.k == 3) = false := by simp [h3]
  have k4 : (r.k == 4) = false := by simp [h4]
  refine ⟨?_, by unfold stepT; rw [if_neg h1, if_neg h2, if_neg h3, if_neg h4]⟩
  unfold g13_j8
  simp only [k0, k1, k2, k3, k4, obs, asP_pointer, asB_bool, asI_int, asS_string, asSl_slice, asM_map, asTup0, asTup1, asTup2, asTup3, asTup4, asTup5, asTup6, asTup7, asTup8, asTup9, asAgg2, asAgg3, asAgg4, asAgg5, asAgg6, asAgg7, asAgg8, asAgg9, asAgg12, getD0, getD1, getD2, getD3, getD4, getD5, getD6, getD7, getD8, getD9, getD10, getD11, getD12, getD13, getD14, getD15, getD16, getD17, getD18, getD19, Bool.not_true, Bool.not_false, Bool.false_eq_true, Bool.true_eq_false, ↓reduceIte, decide_true, decide_false, Option.isNone_some, Option.isNone_none, Option.isSome_some, Option.isSome_none, beq_self_eq_true, bne_self_eq_false, Bool.and_true, Bool.true_and, Bool.and_false, Bool.false_and, not_true_eq_false, not_false_eq_true]

/-- the loop that adds -/
theorem adds {cs : List Value} (hpe : Blk w p cs 46) (hcs : cs.length = 8) (hc4 : cs[4]? = some (.slice q.1 q.2.1 q.2.2)) {l ps : List Int} (how : Own w 3 1 q (intsV' l)) (hsl : SlC w 1 rq (intsV' ps)) (hap : 0 < ps.length → ∀ y ∈ blkOf rq, y ≠ p ∧ y ∉ blkOf q) (hn : l.length + ps.length ≤ 100000000) :
    ∃ t w' q', loopS (g13_l191_b rq (some ⟨p, 0, none⟩)) 0 w = some (.exit 1, t, w') ∧ Blk w' p (cs.set 4 (.slice q'.1 q'.2.1 q'.2.2)) 46 ∧ Own w' 3 1 q' (intsV' (addAll l ps)) ∧ Fr (p :: blkOf q) w w' ∧ ∀ y ∈ blkOf q', y ∈ blkOf q ∨ w.heap.size ≤ y := by
  have hml : maxLen = 9223372036854775807 := by decide
  have hl0 := hsl.1
  simp only [intsV', List.length_map] at hl0
  have lp := hpe.lt
  obtain ⟨t, w', g1, rfl, q', o, b, f, n⟩ := loopS_countX 1 (b := g13_l191_b rq (some ⟨p, 0, none⟩)) (I := fun k s x => s = (k : Int) ∧ ∃ q' : Option Addr × Nat × Nat, Own x 3 1 q' (intsV' (addAll l (ps.take k))) ∧ Blk x p (cs.set 4 (.slice q'.1 q'.2.1 q'.2.2)) 46 ∧ Fr (p :: blkOf q) w x ∧ ∀ y ∈ blkOf q', y ∈ blkOf q ∨ w.heap.size ≤ y) (n := ps.length)
    (fun k s x hk ⟨hs, q', ho, hb, hf, hq'⟩ => by
      subst hs
      have k1 : decide ((k : Int) < (rq.2.1 : Int)) = true := by simp; omega
      have hslx := hsl.fr hf (fun h0 y hy hm => by
        simp only [List.mem_cons] at hm
        have := hap (by omega) y hy
        rcases hm with hm | hm
        · exact this.1 hm
        · exact this.2 hm)
      obtain ⟨a, i1, c1⟩ := hslx.get (i := k) (by simpa using hk)
      have c1' : x.cell? a = some (.int .i64 ps[k]) := by rw [c1]; simp
      have c4 : x.cell? ⟨p, 4, none⟩ = some (.slice q'.1 q'.2.1 q'.2.2) := by rw [hb.cell 4, List.getElem?_set]; simp; omega
      have hal := addAll_len l (ps.take k)
      have htl : (ps.take k).length ≤ k := by simp; omega
      have ec := contains32 (w := x) ho.slC (by omega) ps[k]
      have hw := wrap_succ (n := k) (by omega)
      have hstep : addAll l (ps.take (k + 1)) = if ps[k] ∈ addAll l (ps.take k) then addAll l (ps.take k) else addAll l (ps.take k) ++ [ps[k]] := by rw [List.take_succ_eq_append_getElem hk, addAll_snoc]
      rw [hstep]
      by_cases hm : ps[k] ∈ addAll l (ps.take k)
      · have k2 : decide (ps[k] ∈ addAll l (ps.take k)) = true := by simp [hm]
        rw [if_pos hm]
        refine ⟨_, x, ?_, rfl, q', ho, hb, hf, hq'⟩
        unfold g13_l191_b
        simp only [k1, i1, c1', addr_add, Nat.zero_add, c4, ec, k2, hw, obs, asP_pointer, asB_bool, asI_int, asS_string, asSl_slice, asM_map, asTup0, asTup1, asTup2, asTup3, asTup4, asTup5, asTup6, asTup7, asTup8, asTup9, asAgg2, asAgg3, asAgg4, asAgg5, asAgg6, asAgg7, asAgg8, asAgg9, asAgg12, getD0, getD1, getD2, getD3, getD4, getD5, getD6, getD7, getD8, getD9, getD10, getD11, getD12, getD13, getD14, getD15, getD16, getD17, getD18, getD19, Bool.not_true, Bool.not_false, Bool.false_eq_true, Bool.true_eq_false, ↓reduceIte, decide_true, decide_false, Option.isNone_some, Option.isNone_none, Option.isSome_some, Option.isSome_none, beq_self_eq_true, bne_self_eq_false, Bool.and_true, Bool.true_and, Bool.and_false, Bool.false_and, not_true_eq_false, not_false_eq_true]
      · have k2 : decide (ps[k] ∈ addAll l (ps.take k)) = false := by simp [hm]
        rw [if_neg hm]
        have hol := ho.len
        simp only [intsV', List.length_map] at hol
        obtain ⟨q2, x2, e2, o2, f2, n2, m2⟩ := app_one t28 ho (ys := [.int .i64 ps[k]]) rfl (by intro y hy; simp at hy; subst hy; rfl) (by omega) (by omega) 28 #[false, false]
        have z2 := f2.size
        have lpx := hb.lt
        have hpq : p ∉ blkOf q' := hb.notin ho (by decide)
        obtain ⟨x3, s3, b3, f3⟩ := blk_put (hb.fr f2 hpq) (i := 4) (v := .slice q2.1 q2.2.1 q2.2.2) (by simp; omega) rfl
        rw [List.set_set] at b3
        have zf := hf.size
        have hp2 : p ∉ blkOf q2 := (hb.fr f2 hpq).notin o2 (by decide)
        refine ⟨_, x3, ?_, rfl, q2, ?_, b3, ((hf.app f2).app f3).mono (by
          intro y hy hl
          simp only [List.mem_append, List.mem_cons, List.not_mem_nil, or_false] at hy
          simp only [List.mem_cons]
          rcases hy with (hy | hy) | hy
          · exact hy
          · rcases hq' y hy with hh | hh
            · exact .inr hh
            · omega
          · exact .inl hy), fun y hy => ?_⟩
        · unfold g13_l191_b
          simp only [k1, i1, c1', addr_add, Nat.zero_add, c4, ec, k2, e2, s3, hw, obs, asP_pointer, asB_bool, asI_int, asS_string, asSl_slice, asM_map, asTup0, asTup1, asTup2, asTup3, asTup4, asTup5, asTup6, asTup7, asTup8, asTup9, asAgg2, asAgg3, asAgg4, asAgg5, asAgg6, asAgg7, asAgg8, asAgg9, asAgg12, getD0, getD1, getD2, getD3, getD4, getD5, getD6, getD7, getD8, getD9, getD10, getD11, getD12, getD13, getD14, getD15, getD16, getD17, getD18, getD19, Bool.not_true, Bool.not_false, Bool.false_eq_true, Bool.true_eq_false, ↓reduceIte, decide_true, decide_false, Option.isNone_some, Option.isNone_none, Option.isSome_some, Option.isSome_none, beq_self_eq_true, bne_self_eq_false, Bool.and_true, Bool.true_and, Bool.and_false, Bool.false_and, not_true_eq_false, not_false_eq_true]
        · have e : intsV' (addAll l (ps.take k) ++ [ps[k]]) = intsV' (addAll l (ps.take k)) ++ [.int .i64 ps[k]] := by simp [intsV']
          rw [e]
          exact o2.fr f3 (fun y hy hm' => by simp at hm'; subst hm'; exact hp2 hy)
        · rcases n2 y hy with hh | hh
          · exact hq' y hh
          · right; omega)
    (fun s x ⟨hs, _⟩ => by
      subst hs
      unfold g13_l191_b
      have k1 : decide ((ps.length : Int) < (rq.2.1 : Int)) = false := by simp; omega
      simp only [k1, Bool.false_eq_true, if_false]) (k := 0) (s := 0) (w := w) (Nat.zero_le _) ⟨rfl, q, by simpa [addAll] using how, by
        have : cs.set 4 (.slice q.1 q.2.1 q.2.2) = cs := by
          apply List.ext_getElem?
          intro i
          rw [List.getElem?_set]
          split
          · rename_i h; subst h; rw [hc4]; simp; omega
          · rfl
        rw [this]; exact hpe, Fr.refl _ _, fun y hy => .inl hy⟩
  rw [List.take_length] at o
  exact ⟨_, w', q', g1, b, o, f, n⟩

theorem j8_add (h : St w w0.heap.size r rq p v q) (hk : r.k = 2) (hn : v.parts.length + r.parts.length ≤ 100000000) (hs : (addAll v.parts r.parts).length ≤ 12) :
    ∃ w' q', g13_j8 w0 (some ⟨p, 0, none⟩) w = some (.tuple #[], w') ∧ Blk w' p ((stepT r v).cs q') 46 ∧ Own w' 3 1 q' (intsV' (stepT r v).parts) ∧ Fr (p :: blkOf q) w w' ∧ ∀ y ∈ blkOf q', y ∈ blkOf q ∨ w.heap.size ≤ y := by
  have ng : w0.heap.size ≠ p := h.bb.ne h.pe (by decide)
  obtain ⟨w1, s1, p1, f1⟩ := blk_put h.pe (i := 0) (v := .int .i64 2) (by simp [TV.cs]) rfl
  have b1 := h.bb.fr f1 (by simp; exact ng)
  have npq : p ∉ blkOf q := h.pe.notin h.ow (by decide)
  have o1 := h.ow.fr f1 (fun y hy hm => by simp at hm; subst hm; exact npq hy)
  have sl1 := h.sl.fr f1 (fun h0 y hy hm => by simp at hm; exact (h.ap (by simpa using h0) y hy).1 hm)
  have k0 : w.cell? ⟨w0.heap.size, 0, none⟩ = some (.int .i64 r.k) := h.bb.cell 0
  have c5 : w1.cell? ⟨w0.heap.size, 5, none⟩ = some (.slice rq.1 rq.2.1 rq.2.2) := b1.cell 5
  obtain ⟨t, w2, q2, g1, p2, o2, f2, n2⟩ := adds (rq := rq) (q := q) p1 (by simp [TV.cs]) (by simp [TV.cs]) o1 sl1 h.ap hn
  have c4 : w2.cell? ⟨p, 4, none⟩ = some (.slice q2.1 q2.2.1 q2.2.2) := p2.cell 4
  obtain ⟨l', w3, e3, o3, f3, pm, ps⟩ := sort33s o2 hs
  have hl' := isort_of pm ps
  have hst : stepT r v = { v with st := 2, parts := isort (addAll v.parts r.parts) } := by unfold stepT; rw [if_neg (by omega), if_pos hk]
  rw [hst]
  have npq2 : p ∉ blkOf q2 := p2.notin o2 (by decide)
  have k1 : (r.k == 1) = false := by simp [hk]
  have k2 : (r.k == 2) = true := by simp [hk]
  have z1 := f1.size
  have z2 := f2.size
  refine ⟨w3, q2, ?_, p2.fr f3 npq2, by rw [← hl']; exact o3, ((f1.app f2).app f3).mono (by
    intro y hy hl
    simp only [List.mem_append, List.mem_cons, List.not_mem_nil, or_false] at hy
    simp only [List.mem_cons]
    rcases hy with (hy | hy | hy) | hy
    · exact .inl hy
    · exact .inl hy
    · exact .inr hy
    · rcases n2 y hy with hh | hh
      · exact .inr hh
      · omega), fun y hy => by
    rcases n2 y hy with hh | hh
    · exact .inl hh
    · right; omega⟩
  unfold g13_j8
  simp only [k0, k1, k2, addr_add, Nat.zero_add, s1, c5, obs, asP_pointer, asB_bool, asI_int, asS_string, asSl_slice, asM_map, asTup0, asTup1, asTup2, asTup3, asTup4, asTup5, asTup6, asTup7, asTup8, asTup9, asAgg2, asAgg3, asAgg4, asAgg5, asAgg6, asAgg7, asAgg8, asAgg9, asAgg12, getD0, getD1, getD2, getD3, getD4, getD5, getD6, getD7, getD8, getD9, getD10, getD11, getD12, getD13, getD14, getD15, getD16, getD17, getD18, getD19, Bool.not_true, Bool.not_false, Bool.false_eq_true, Bool.true_eq_false, ↓reduceIte, decide_true, decide_false, Option.isNone_some, Option.isNone_none, Option.isSome_some, Option.isSome_none, beq_self_eq_true, bne_self_eq_false, Bool.and_true, Bool.true_and, Bool.and_false, Bool.false_and, not_true_eq_false, not_false_eq_true]
  rw [g13_l191_x1_of g1]
  unfold g13_l191_x1
  simp only [addr_add, Nat.zero_add, c4, e3, obs, asP_pointer, asB_bool, asI_int, asS_string, asSl_slice, asM_map, asTup0, asTup1, asTup2, asTup3, asTup4, asTup5, asTup6, asTup7, asTup8, asTup9, asAgg2, asAgg3, asAgg4, asAgg5, asAgg6, asAgg7, asAgg8, asAgg9, asAgg12, getD0, getD1, getD2, getD3, getD4, getD5, getD6, getD7, getD8, getD9, getD10, getD11, getD12, getD13, getD14, getD15, getD16, getD17, getD18, getD19, Bool.not_true, Bool.not_false, Bool.false_eq_true, Bool.true_eq_false, ↓reduceIte, decide_true, decide_false, Option.isNone_some, Option.isNone_none, Option.isSome_some, Option.isSome_none, beq_self_eq_true, bne_self_eq_false, Bool.and_true, Bool.true_and, Bool.and_false, Bool.false_and, not_true_eq_false, not_false_eq_true]
end
end Go.Proofs.Ytlcojbodcbjkaaa
