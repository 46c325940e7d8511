/-
  ImageC: lemmas on what Go functions of this seat come to (for whatever arguments, as each says). No condition but those that stand in each lemma.
-/
import Derived.Test.YtjcenfgmpbeldaaImageF0
import Derived.Laws.LoneSync
namespace Go.Proofs.Ytjcenfgmpbeldaa
open Go Go.Ev
set_option maxRecDepth 100000
set_option linter.unusedVariables false
set_option linter.unusedSimpArgs false
variable {w : World}

/-! ## sync/atomic -/
theorem load100 {a : Addr} {n : Int} (h : w.cell? a = some (.int .u64 n)) : callF Try.prog 100 #[.pointer (some a)] w = some (.int .u64 n, w) := by
  unfold callF
  rw [run_call_load Try.func100 (by kernel_rfl) (by kernel_rfl) (by kernel_rfl) .u64 (by kernel_rfl) h]
  rfl
theorem store83 {a : Addr} {n : Int} {u : Value} (h : w.cell? a = some u) (hf : w.frozen? a = false) :
    callF Try.prog 83 #[.pointer (some a), .int .u64 n] w = some (.tuple #[], w.setCell a (.int .u64 n)) := by
  unfold callF
  rw [run_call_store Try.func83 (by kernel_rfl) (by kernel_rfl) (by kernel_rfl) (by kernel_rfl) h hf]
  rfl
theorem cas107 {a : Addr} {x y : Int} (h : w.cell? a = some (.int .u64 x)) (hf : w.frozen? a = false) :
    callF Try.prog 107 #[.pointer (some a), .int .u64 x, .int .u64 y] w = some (.bool true, w.setCell a (.int .u64 y)) := by
  unfold callF
  rw [run_call_cas_hit Try.func107 (by kernel_rfl) (by kernel_rfl) (by kernel_rfl) .u64 (by kernel_rfl) h hf]
  rfl

theorem load78 {a : Addr} {n : Int} (h : w.cell? a = some (.int .u64 n)) : callF Try.prog 78 #[.pointer (some a)] w = some (.int .u64 n, w) :=
  g78_call (by simp [g78, load100 h])
theorem store67 {a : Addr} {n : Int} {u : Value} (h : w.cell? a = some u) (hf : w.frozen? a = false) :
    callF Try.prog 67 #[.pointer (some a), .int .u64 n] w = some (.tuple #[], w.setCell a (.int .u64 n)) :=
  g67_call (by simp [g67, store83 h hf])
theorem cas99 {a : Addr} {x y : Int} (h : w.cell? a = some (.int .u64 x)) (hf : w.frozen? a = false) :
    callF Try.prog 99 #[.pointer (some a), .int .u64 x, .int .u64 y] w = some (.bool true, w.setCell a (.int .u64 y)) :=
  g99_call (by simp [g99, cas107 h hf])

/-! ## the counter -/
/-- a counter in memory: the next number, and where they end -/
def Ctr (w : World) (b : Nat) (x l : Int) : Prop := w.heap[b]? = some (.cells #[.int .u64 x, .int .u64 l] 118 (0, 0))

theorem Ctr.next {b : Nat} {x l : Int} (h : Ctr w b x l) : w.cell? ⟨b, 0, none⟩ = some (.int .u64 x) := by rw [cell_blk h]; rfl
theorem Ctr.limit {b : Nat} {x l : Int} (h : Ctr w b x l) : w.cell? ⟨b, 1, none⟩ = some (.int .u64 l) := by rw [cell_blk h]; rfl
theorem Ctr.set {b : Nat} {x l y : Int} (h : Ctr w b x l) : Ctr (w.setCell ⟨b, 0, none⟩ (.int .u64 y)) b y l := by
  unfold Ctr; rw [setCell_blk h]; rfl
theorem Ctr.drew {b : Nat} {x l : Int} (h : Ctr w b x l) : Ctr w.drew b x l := h
theorem Ctr.fr {b : Nat} {x l : Int} {S : List Nat} {w' : World} (h : Ctr w b x l) (hf : Fr S w w') (hb : b ∉ S) : Ctr w' b x l := hf.blk h hb

theorem new34 (f l : Int) : ∃ w', callF Try.prog 34 #[.int .u64 f, .int .u64 l] w = some (.pointer (some ⟨w.heap.size, 0, none⟩), w') ∧
    Ctr w' w.heap.size (if l < f then l else f) l ∧ Fr [] w w' := by
  have h0 : Ctr (w.alloc (.cells #[.int .u64 0, .int .u64 l] 118)) w.heap.size 0 l := alloc_blk_new _
  refine ⟨(w.alloc (.cells #[.int .u64 0, .int .u64 l] 118)).setCell ⟨w.heap.size, 0, none⟩ (.int .u64 (if l < f then l else f)), ?_, h0.set, ?_⟩
  · refine g34_call ?_
    simp [g34, store67 h0.next (frozen_blk h0 _)]
  · refine ((Fr.alloc _).nil.trans Fr.setCell).mono ?_
    intro x hx hlt
    simp at hx; omega

/-- what Block answers, and the next number behind it -/
def blockOf (x l n : Int) : Int × Bool × Int := if n = 0 ∨ n > l - x then (0, false, x) else (x, true, x + n)

theorem block77 {b : Nat} {x l n : Int} (h : Ctr w b x l) (hx : 0 ≤ x) (hxl : x ≤ l) (hl : l < 18446744073709551616) (hn : 0 ≤ n) (hn2 : n < 18446744073709551616) :
    ∃ w', callF Try.prog 77 #[.pointer (some ⟨b, 0, none⟩), .int .u64 n] w = some (.tuple #[.int .u64 (blockOf x l n).1, .bool (blockOf x l n).2.1], w') ∧
      Ctr w' b (blockOf x l n).2.2 l ∧ Fr [b] w w' := by
  by_cases hn0 : n = 0
  · subst hn0
    refine ⟨w, g77_call ?_, ?_, Fr.refl _ _⟩
    · simp [g77, blockOf]
    · simpa [blockOf] using h
  · have hw : IntKind.u64.wrap (l - x) = l - x := wrap_u64 (by omega) (by omega)
    by_cases hgt : n > l - x
    · refine ⟨w, g77_call ?_, ?_, Fr.refl _ _⟩
      · have hl : loopS (g77_l1_b (some ⟨b, 0, none⟩) n) (0, false) w = some (.ret, (0, false), w) := by
          refine loopS_out (by simp) ?_
          have : Addr.add ⟨b, 0, none⟩ 1 = ⟨b, 1, none⟩ := rfl
          simp [g77_l1_b, load78 h.next, this, h.limit, hw, hgt]
        simp [g77, hn0, g77_l1_ret_of hl, g77_l1_ret, blockOf, hgt]
      · simpa [blockOf, hgt] using h
    · have hw2 : IntKind.u64.wrap (x + n) = x + n := wrap_u64 (by omega) (by omega)
      refine ⟨w.setCell ⟨b, 0, none⟩ (.int .u64 (x + n)), g77_call ?_, ?_, Fr.setCell⟩
      · have hl : loopS (g77_l1_b (some ⟨b, 0, none⟩) n) (0, false) w = some (.ret, (x, true), w.setCell ⟨b, 0, none⟩ (.int .u64 (x + n))) := by
          refine loopS_out (by simp) ?_
          have : Addr.add ⟨b, 0, none⟩ 1 = ⟨b, 1, none⟩ := rfl
          simp [g77_l1_b, load78 h.next, this, h.limit, hw, hgt, hw2, cas99 h.next (frozen_blk h _)]
        simp [g77, hn0, g77_l1_ret_of hl, g77_l1_ret, blockOf, hgt]
      · have : blockOf x l n = (x, true, x + n) := by simp [blockOf, hn0, hgt]
        rw [this]; exact h.set

theorem left42 {b : Nat} {x l : Int} (h : Ctr w b x l) (hx : 0 ≤ x) (hxl : x ≤ l) (hl : l < 18446744073709551616) :
    callF Try.prog 42 #[.pointer (some ⟨b, 0, none⟩)] w = some (.tuple #[.int .u64 x, .int .u64 (l - x)], w.drew) := by
  have ha : Addr.add ⟨b, 0, none⟩ 1 = ⟨b, 1, none⟩ := rfl
  have hw : IntKind.u64.wrap (l - x) = l - x := wrap_u64 (by omega) (by omega)
  exact g42_call (by simp [g42, load78 h.next, ha, h.limit, hw])

end Go.Proofs.Ytjcenfgmpbeldaa
