/-
  GateC: lemmas on what Go functions of this seat come to (for whatever arguments, as each says). No condition but those that stand in each lemma.
-/
import Derived.Test.YtniibeofggdfoaaGateF1
import Derived.Test.YtniibeofggdfoaaLb2
import Derived.Laws.LoneSync
namespace Go.Proofs.Ytniibeofggdfoaa
open Go Go.Ev
set_option maxRecDepth 100000
set_option linter.unusedVariables false
variable {w : World}

/-! ## sync/atomic -/
theorem load38 {a : Addr} {n : Int} (h : w.cell? a = some (.int .u64 n)) : callF Try.prog 38 #[.pointer (some a)] w = some (.int .u64 n, w) := by
  unfold callF
  rw [run_call_load Try.func38 (by kernel_rfl) (by kernel_rfl) (by kernel_rfl) .u64 (by kernel_rfl) h]
  rfl
theorem store37 {a : Addr} {n : Int} {u : Value} (h : w.cell? a = some u) (hf : w.frozen? a = false) :
    callF Try.prog 37 #[.pointer (some a), .int .u64 n] w = some (.tuple #[], w.setCell a (.int .u64 n)) := by
  unfold callF
  rw [run_call_store Try.func37 (by kernel_rfl) (by kernel_rfl) (by kernel_rfl) (by kernel_rfl) h hf]
  rfl
theorem cas39 {a : Addr} {x y : Int} (h : w.cell? a = some (.int .u64 x)) (hf : w.frozen? a = false) :
    callF Try.prog 39 #[.pointer (some a), .int .u64 x, .int .u64 y] w = some (.bool true, w.setCell a (.int .u64 y)) := by
  unfold callF
  rw [run_call_cas_hit Try.func39 (by kernel_rfl) (by kernel_rfl) (by kernel_rfl) .u64 (by kernel_rfl) h hf]
  rfl

theorem load29 {a : Addr} {n : Int} (h : w.cell? a = some (.int .u64 n)) : callF Try.prog 29 #[.pointer (some a)] w = some (.int .u64 n, w) :=
  g29_call (by simp [g29, load38 h])
theorem store28 {a : Addr} {n : Int} {u : Value} (h : w.cell? a = some u) (hf : w.frozen? a = false) :
    callF Try.prog 28 #[.pointer (some a), .int .u64 n] w = some (.tuple #[], w.setCell a (.int .u64 n)) :=
  g28_call (by simp [g28, store37 h hf])
theorem cas30 {a : Addr} {x y : Int} (h : w.cell? a = some (.int .u64 x)) (hf : w.frozen? a = false) :
    callF Try.prog 30 #[.pointer (some a), .int .u64 x, .int .u64 y] w = some (.bool true, w.setCell a (.int .u64 y)) :=
  g30_call (by simp [g30, cas39 h hf])

/-! ## the counter -/
/-- a counter in memory: the next number, and where they end -/
def Ctr (w : World) (b : Nat) (x l : Int) : Prop := w.heap[b]? = some (.cells #[.int .u64 x, .int .u64 l] 82 (0, 0))

theorem Ctr.next {b : Nat} {x l : Int} (h : Ctr w b x l) : w.cell? ⟨b, 0, none⟩ = some (.int .u64 x) := by rw [cell_blk h]; rfl
theorem Ctr.limit {b : Nat} {x l : Int} (h : Ctr w b x l) : w.cell? ⟨b, 1, none⟩ = some (.int .u64 l) := by rw [cell_blk h]; rfl
theorem Ctr.set {b : Nat} {x l y : Int} (h : Ctr w b x l) : Ctr (w.setCell ⟨b, 0, none⟩ (.int .u64 y)) b y l := by
  unfold Ctr; rw [setCell_blk h]; rfl
theorem Ctr.drew {b : Nat} {x l : Int} (h : Ctr w b x l) : Ctr w.drew b x l := h
theorem Ctr.fr {b : Nat} {x l : Int} {S : List Nat} {w' : World} (h : Ctr w b x l) (hf : Fr S w w') (hb : b ∉ S) : Ctr w' b x l := hf.blk h hb

theorem new10 (f l : Int) : ∃ w', callF Try.prog 10 #[.int .u64 f, .int .u64 l] w = some (.pointer (some ⟨w.heap.size, 0, none⟩), w') ∧
    Ctr w' w.heap.size (if l < f then l else f) l ∧ Fr [] w w' := by
  have h0 : Ctr (w.alloc (.cells #[.int .u64 0, .int .u64 l] 82)) w.heap.size 0 l := alloc_blk_new _
  refine ⟨(w.alloc (.cells #[.int .u64 0, .int .u64 l] 82)).setCell ⟨w.heap.size, 0, none⟩ (.int .u64 (if l < f then l else f)), ?_, h0.set, ?_⟩
  · refine g10_call ?_
    simp [g10, store28 h0.next (frozen_blk h0 _)]
  · refine ((Fr.alloc _).nil.trans Fr.setCell).mono ?_
    intro x hx hlt
    simp at hx; omega

/-- what Block answers, and the next number behind it -/
def blockOf (x l n : Int) : Int × Bool × Int := if n = 0 ∨ n > l - x then (0, false, x) else (x, true, x + n)

theorem block13 {b : Nat} {x l n : Int} (h : Ctr w b x l) (hx : 0 ≤ x) (hxl : x ≤ l) (hl : l < 18446744073709551616) (hn : 0 ≤ n) (hn2 : n < 18446744073709551616) :
    ∃ w', callF Try.prog 13 #[.pointer (some ⟨b, 0, none⟩), .int .u64 n] w = some (.tuple #[.int .u64 (blockOf x l n).1, .bool (blockOf x l n).2.1], w') ∧
      Ctr w' b (blockOf x l n).2.2 l ∧ Fr [b] w w' := by
  by_cases hn0 : n = 0
  · subst hn0
    refine ⟨w, g13_call ?_, ?_, Fr.refl _ _⟩
    · simp [g13, blockOf]
    · simpa [blockOf] using h
  · have hw : IntKind.u64.wrap (l - x) = l - x := wrap_u64 (by omega) (by omega)
    by_cases hgt : n > l - x
    · refine ⟨w, g13_call ?_, ?_, Fr.refl _ _⟩
      · have hl : loopS (g13_l1_b (some ⟨b, 0, none⟩) n) (0, false) w = some (.ret, (0, false), w) := by
          refine loopS_out (by simp) ?_
          have : Addr.add ⟨b, 0, none⟩ 1 = ⟨b, 1, none⟩ := rfl
          simp [g13_l1_b, load29 h.next, this, h.limit, hw, hgt]
        simp [g13, hn0, g13_l1_ret_of hl, g13_l1_ret, blockOf, hgt]
      · simpa [blockOf, hgt] using h
    · have hw2 : IntKind.u64.wrap (x + n) = x + n := wrap_u64 (by omega) (by omega)
      refine ⟨w.setCell ⟨b, 0, none⟩ (.int .u64 (x + n)), g13_call ?_, ?_, Fr.setCell⟩
      · have hl : loopS (g13_l1_b (some ⟨b, 0, none⟩) n) (0, false) w = some (.ret, (x, true), w.setCell ⟨b, 0, none⟩ (.int .u64 (x + n))) := by
          refine loopS_out (by simp) ?_
          have : Addr.add ⟨b, 0, none⟩ 1 = ⟨b, 1, none⟩ := rfl
          simp [g13_l1_b, load29 h.next, this, h.limit, hw, hgt, hw2, cas30 h.next (frozen_blk h _)]
        simp [g13, hn0, g13_l1_ret_of hl, g13_l1_ret, blockOf, hgt]
      · have : blockOf x l n = (x, true, x + n) := by simp [blockOf, hn0, hgt]
        rw [this]; exact h.set

theorem next16 {b : Nat} {x l : Int} (h : Ctr w b x l) (hx : 0 ≤ x) (hxl : x ≤ l) (hl : l < 18446744073709551616) :
    ∃ w', callF Try.prog 16 #[.pointer (some ⟨b, 0, none⟩)] w = some (.tuple #[.int .u64 (blockOf x l 1).1, .bool (blockOf x l 1).2.1], w') ∧
      Ctr w' b (blockOf x l 1).2.2 l ∧ Fr [b] w w' := by
  obtain ⟨w', h1, h2, h3⟩ := block13 (n := 1) h hx hxl hl (by omega) (by omega)
  exact ⟨w', g16_call (by simp [g16, h1]), h2, h3⟩

/-- the next number behind a Raise -/
def raiseOf (x l t : Int) : Int := if x ≥ t ∨ x ≥ l then x else if l < t then l else t

theorem raise17 {b : Nat} {x l t : Int} (h : Ctr w b x l) :
    ∃ w', callF Try.prog 17 #[.pointer (some ⟨b, 0, none⟩), .int .u64 t] w = some (.tuple #[], w') ∧ Ctr w' b (raiseOf x l t) l ∧ Fr [b] w w' := by
  have ha : Addr.add ⟨b, 0, none⟩ 1 = ⟨b, 1, none⟩ := rfl
  have hd := h.drew
  by_cases h1 : x ≥ t
  · refine ⟨w.drew, g17_call ?_, ?_, Fr.drew _ _⟩
    · have hl : loopS (g17_l1_b (some ⟨b, 0, none⟩) t) () w = some (.ret, (), w.drew) := by
        refine loopS_out (by simp) ?_
        simp [g17_l1_b, load29 h.next, h1]
      simp [g17, g17_l1_ret_of hl, g17_l1_ret]
    · have : raiseOf x l t = x := by simp [raiseOf, h1]
      rw [this]; exact hd
  · by_cases h2 : x ≥ l
    · refine ⟨w.drew, g17_call ?_, ?_, Fr.drew _ _⟩
      · have hl : loopS (g17_l1_b (some ⟨b, 0, none⟩) t) () w = some (.ret, (), w.drew) := by
          refine loopS_out (by simp) ?_
          simp [g17_l1_b, load29 h.next, h1, ha, h.limit, h2]
        simp [g17, g17_l1_ret_of hl, g17_l1_ret]
      · have : raiseOf x l t = x := by simp [raiseOf, h2]
        rw [this]; exact hd
    · refine ⟨w.drew.setCell ⟨b, 0, none⟩ (.int .u64 (if l < t then l else t)), g17_call ?_, ?_, (Fr.drew _ _).trans Fr.setCell⟩
      · have hl : loopS (g17_l1_b (some ⟨b, 0, none⟩) t) () w = some (.ret, (), w.drew.setCell ⟨b, 0, none⟩ (.int .u64 (if l < t then l else t))) := by
          refine loopS_out (by simp) ?_
          simp [g17_l1_b, load29 h.next, h1, ha, h.limit, h2, cas30 hd.next (frozen_blk hd _)]
        simp [g17, g17_l1_ret_of hl, g17_l1_ret]
      · have : raiseOf x l t = if l < t then l else t := by simp [raiseOf, h1, h2]
        rw [this]; exact hd.set

theorem left12 {b : Nat} {x l : Int} (h : Ctr w b x l) (hx : 0 ≤ x) (hxl : x ≤ l) (hl : l < 18446744073709551616) :
    callF Try.prog 12 #[.pointer (some ⟨b, 0, none⟩)] w = some (.tuple #[.int .u64 x, .int .u64 (l - x)], w.drew) := by
  have ha : Addr.add ⟨b, 0, none⟩ 1 = ⟨b, 1, none⟩ := rfl
  have hw : IntKind.u64.wrap (l - x) = l - x := wrap_u64 (by omega) (by omega)
  exact g12_call (by simp [g12, load29 h.next, ha, h.limit, hw])

theorem awake11 : ∃ w', callF Try.prog 11 #[] w = some (.bool true, w') ∧ Fr [] w w' := by
  obtain ⟨w1, e1, c1, f1⟩ := new10 (w := w) 5 8
  obtain ⟨w2, e2, c2, f2⟩ := block13 (n := 2) c1 (by decide) (by decide) (by decide) (by decide) (by decide)
  obtain ⟨w3, e3, c3, f3⟩ := next16 c2 (by decide) (by decide) (by decide)
  obtain ⟨w4, e4, c4, f4⟩ := next16 c3 (by decide) (by decide) (by decide)
  refine ⟨w4, g11_call ?_, ?_⟩
  · simp [g11, e1, e2, e3, e4]
    simp [blockOf]
  · refine (((f1.nil.trans f2).trans f3).trans f4).mono ?_
    intro x hx hlt
    simp at hx; omega
end Go.Proofs.Ytniibeofggdfoaa
