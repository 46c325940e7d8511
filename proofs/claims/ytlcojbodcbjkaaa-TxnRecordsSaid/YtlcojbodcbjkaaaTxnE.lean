/-
  TxnE: lemmas on what Go functions of this seat come to (for whatever arguments, as each says). No condition but those that stand in each lemma.
-/
import Derived.Test.YtlcojbodcbjkaaaTxnD
namespace Go.Proofs.Ytlcojbodcbjkaaa
open Go Go.Ev
set_option maxRecDepth 100000
set_option linter.unusedVariables false
set_option linter.unusedSimpArgs false

def tvOf (A : List (Int × TV)) (n : Int) : TV := (kget A n).getD tv0
/-- a name's state as a value -/
def TV.arg (v : TV) (q : Option Addr × Nat × Nat) : Value := .agg #[.int .i64 v.st, .int .i64 v.inc, .int .u64 v.pid, .int .i64 v.ep, .slice q.1 q.2.1 q.2.2, .int .i64 v.last, .int .u64 v.lpid, .bool v.com]
theorem tvcs_oc (v : TV) (q : Option Addr × Nat × Nat) : ∀ u ∈ v.cs q, u.oneCell' = true := by
  intro u hu
  simp only [TV.cs, List.mem_cons, List.not_mem_nil, or_false] at hu
  rcases hu with rfl | rfl | rfl | rfl | rfl | rfl | rfl | rfl <;> rfl

/-- a zero block of a name's state -/
theorem zero46 (w : World) : Blk (w.alloc (.cells #[.int .i64 0, .int .i64 0, .int .u64 0, .int .i64 0, .slice none 0 0, .int .i64 0, .int .u64 0, .bool false] 46)) w.heap.size [.int .i64 0, .int .i64 0, .int .u64 0, .int .i64 0, .slice none 0 0, .int .i64 0, .int .u64 0, .bool false] 46 ∧
    Fr [] w (w.alloc (.cells #[.int .i64 0, .int .i64 0, .int .u64 0, .int .i64 0, .slice none 0 0, .int .i64 0, .int .u64 0, .bool false] 46)) := ⟨Blk.new w [.int .i64 0, .int .i64 0, .int .u64 0, .int .i64 0, .slice none 0 0, .int .i64 0, .int .u64 0, .bool false] 46, Fr.alloc _⟩

section
variable {w : World} {D : Nat → Prop} {b : Nat} {A : List (Int × TV)}

theorem tx21 (h : Tb w D b A) (n : Int) (hp : ∀ v, kget A n = some v → v.parts.length ≤ 1000000000) :
    ∃ q w', callF Try.prog 21 #[.pointer (some ⟨b, 0, none⟩), .int .i64 n] w = some ((tvOf A n).arg q, w') ∧ Fr [] w w' ∧ Own w' 3 1 q (intsV' (tvOf A n).parts) ∧ ∀ y ∈ blkOf q, w.heap.size ≤ y := by
  obtain ⟨b1, f1⟩ := zero46 w
  obtain ⟨r, fs, rfl, h2, h4, h5, h6⟩ := (h.fr f1 (by simp)).ex
  obtain ⟨w1, hw1⟩ : ∃ w1, w.alloc (.cells #[.int .i64 0, .int .i64 0, .int .u64 0, .int .i64 0, .slice none 0 0, .int .i64 0, .int .u64 0, .bool false] 46) = w1 := ⟨_, rfl⟩
  rw [hw1] at b1 f1 h2 h4 h5
  have c0 : w1.cell? ⟨b, 0, none⟩ = some (.map (some r)) := h2.cell 0
  have lk := look_nm h4 n
  rcases keysOf_get fs n with ⟨i, hi, k1, k2, k3, k4⟩ | ⟨k1, k2, k3, k4⟩
  · rw [k2] at lk
    have hv : tvOf (fs.map PE.ab) n = fs[i].pv := by unfold tvOf; rw [k3]; rfl
    rw [hv]
    have hpl := hp _ k3
    have ok := h5.ok i hi
    have hbk := ok.blk
    have how := ok.own
    have hcs : fs[i].cs = fs[i].pv.cs fs[i].q := rfl
    rw [hcs] at hbk
    obtain ⟨v, hvv⟩ : ∃ v, fs[i].pv = v := ⟨_, rfl⟩
    obtain ⟨q, hqq⟩ : ∃ q, fs[i].q = q := ⟨_, rfl⟩
    obtain ⟨p, hpp⟩ : ∃ p, fs[i].pb = p := ⟨_, rfl⟩
    rw [hvv] at hbk how hpl ⊢
    rw [hqq] at hbk how
    rw [hpp] at hbk lk
    have l1 := hbk.ldN (n := 8) rfl
    obtain ⟨b2, f2⟩ := zero46 w1
    obtain ⟨w3, s3, b3, f3⟩ := b2.stL (vs := v.cs q) rfl (tvcs_oc _ _)
    have z1 := f1.size
    have z2 := f2.size
    have F3 : Fr [] w1 w3 := (f2.app f3).mono (by intro y hy hl; simp at hy; omega)
    have c3 : w3.cell? ⟨w1.heap.size, 4, none⟩ = some (.slice q.1 q.2.1 q.2.2) := b3.cell 4
    have how3 := how.fr F3 (by simp)
    obtain ⟨q', w4, e4, o4, f4, n4⟩ := clone36 how3.slC (fun hn => (how3.empty hn).2.1) hpl
    have z3 := F3.size
    have z4 := f4.size
    have b4 := b3.fr f4 (by simp)
    have s5 : st1 w4 ⟨w1.heap.size, 4, none⟩ (.slice q'.1 q'.2.1 q'.2.2) = some (w4.setCell ⟨w1.heap.size, 4, none⟩ (.slice q'.1 q'.2.1 q'.2.2)) := b4.st1 (by simp [TV.cs]) rfl
    have b5 : Blk (w4.setCell ⟨w1.heap.size, 4, none⟩ (.slice q'.1 q'.2.1 q'.2.2)) w1.heap.size (v.cs q') 46 := b4.set 4 (.slice q'.1 q'.2.1 q'.2.2)
    have f5 : Fr [w1.heap.size] w4 (w4.setCell ⟨w1.heap.size, 4, none⟩ (.slice q'.1 q'.2.1 q'.2.2)) := Fr.setCell
    obtain ⟨w5, hw5⟩ : ∃ w5, w4.setCell ⟨w1.heap.size, 4, none⟩ (.slice q'.1 q'.2.1 q'.2.2) = w5 := ⟨_, rfl⟩
    rw [hw5] at s5 b5 f5
    have l5 := b5.ldN (n := 8) rfl
    have F5 : Fr [] w1 w5 := ((F3.app f4).app f5).mono (by intro y hy hl; simp at hy; omega)
    have b15 := b1.fr F5 (by simp)
    obtain ⟨w6, s6, b6, f6⟩ := b15.stL (vs := v.cs q') rfl (tvcs_oc _ _)
    have l6 := b6.ldN (n := 8) rfl
    have z5 := F5.size
    have lb1 := b1.lt
    have o6 := (o4.fr f5 (fun y hy hm => by simp at hm; have := n4 y hy; have := b3.lt; omega)).fr f6 (fun y hy hm => by simp at hm; have := n4 y hy; omega)
    simp only [TV.cs] at l1 s3 l5 s6 l6
    refine ⟨q', w6, g21_call ?_, ((f1.app F5).app f6).mono (by intro y hy hl; simp at hy; omega), o6, fun y hy => by have := n4 y hy; omega⟩
    unfold g21
    rw [hw1]
    simp only [c0, lk, Option.getD_some, l1, s3, c3, e4, addr_add, Nat.zero_add, s5, l5, s6, l6, obs, asP_pointer, asB_bool, asI_int, asS_string, asSl_slice, asM_map, asTup0, asTup1, asTup2, asTup3, asTup4, asTup5, asTup6, asTup7, asTup8, asTup9, asAgg2, asAgg3, asAgg4, asAgg5, asAgg6, asAgg7, asAgg8, asAgg9, asAgg12, getD0, getD1, getD2, getD3, getD4, getD5, getD6, getD7, getD8, getD9, getD10, getD11, getD12, getD13, getD14, getD15, getD16, getD17, getD18, getD19, Bool.not_true, Bool.not_false, Bool.false_eq_true, Bool.true_eq_false, ↓reduceIte, decide_true, decide_false, Option.isNone_some, Option.isNone_none, Option.isSome_some, Option.isSome_none, beq_self_eq_true, bne_self_eq_false, Bool.and_true, Bool.true_and, Bool.and_false, Bool.false_and, not_true_eq_false, not_false_eq_true]
    rfl
  · rw [k1] at lk
    have hv : tvOf (fs.map PE.ab) n = tv0 := by unfold tvOf; rw [k2]; rfl
    rw [hv]
    obtain ⟨w2, s2, b2, f2⟩ := b1.stL (vs := tv0.cs (none, 0, 0)) rfl (tvcs_oc _ _)
    have l2 := b2.ldN (n := 8) rfl
    simp only [TV.cs, tv0] at s2 l2
    refine ⟨(none, 0, 0), w2, g21_call ?_, (f1.app f2).mono (by intro y hy hl; simp at hy; omega), Own.nil _ _ _, by simp [blkOf]⟩
    unfold g21
    rw [hw1]
    simp only [c0, lk, Option.getD_none, s2, l2, obs, asP_pointer, asB_bool, asI_int, asS_string, asSl_slice, asM_map, asTup0, asTup1, asTup2, asTup3, asTup4, asTup5, asTup6, asTup7, asTup8, asTup9, asAgg2, asAgg3, asAgg4, asAgg5, asAgg6, asAgg7, asAgg8, asAgg9, asAgg12, getD0, getD1, getD2, getD3, getD4, getD5, getD6, getD7, getD8, getD9, getD10, getD11, getD12, getD13, getD14, getD15, getD16, getD17, getD18, getD19, Bool.not_true, Bool.not_false, Bool.false_eq_true, Bool.true_eq_false, ↓reduceIte, decide_true, decide_false, Option.isNone_some, Option.isNone_none, Option.isSome_some, Option.isSome_none, beq_self_eq_true, bne_self_eq_false, Bool.and_true, Bool.true_and, Bool.and_false, Bool.false_and, not_true_eq_false, not_false_eq_true]
    rfl
end
end Go.Proofs.Ytlcojbodcbjkaaa
