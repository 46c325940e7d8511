/-
  GateMarks: lemmas on what Go functions of this seat come to (for whatever arguments, as each says). No condition but those that stand in each lemma.
-/
import Derived.Test.YtniibeofggdfoaaGateN
namespace Go.Proofs.Ytniibeofggdfoaa
open Go Go.Ev
set_option maxRecDepth 100000
set_option linter.unusedVariables false
set_option linter.unusedSimpArgs false

structure MInv (W : World) (b1 b2 : Nat) (k : Nat) (s : Bool × Int) (w : World) : Prop where
  cnt : s = (false, (k : Int))
  at_ : ∃ M, Mk w b1 M ∧ Rm w b2 M
  fr : Fr [] W w

theorem tail12 {W w w6 w0 : World} {b1 b2 k : Nat} {M : Nat → Bool} {i : Int} {to : Bool} (m1 : Mk w b1 (turnM M i to)) (m2 : Rm w b2 M) (hd : Blk w w6.heap.size [.int .i64 i, .bool to] 61)
    (h1 : b1 = w0.heap.size) (h2 : b2 = (World.alloc w0 (.cells #[.int .u64 0, .int .u64 0, .int .u64 0, .int .u64 0] 51)).heap.size) (hne : b1 ≠ b2) (hn2 : b2 ≠ w6.heap.size) (hk : k + 1 < 9223372036854775808) (hW : W.heap.size ≤ b1) (hW2 : W.heap.size ≤ b2) (hf : Fr [] W w) :
    ∃ s' w', g7_j12 w6 w0 (false, (k : Int)) (turnR M i to) w = some (.normal, s', w') ∧ MInv W b1 b2 (k + 1) s' w' := by
  subst h1 h2
  have hd' := hd.drew
  have d0 : w.drew.cell? ⟨w6.heap.size, 0, none⟩ = some (.int .i64 i) := hd'.cell 0
  have d1 : w.drew.cell? ⟨w6.heap.size, 1, none⟩ = some (.bool to) := hd'.cell 1
  obtain ⟨w1, e1, r1, f1⟩ := rturn22 (w := w.drew) (m2.fr (Fr.drew [] w) (by simp)) i to
  have m1' := (m1.fr (Fr.drew [] w) (by simp)).fr f1 (by rw [List.mem_singleton]; exact hne)
  have hd1 := hd'.fr f1 (by intro hm; rw [List.mem_singleton] at hm; exact hn2 hm.symm)
  have c0 : w1.cell? ⟨w6.heap.size, 0, none⟩ = some (.int .i64 i) := hd1.cell 0
  have e2 := has23 m1' i
  have e3 := rhas24 r1 i
  have e4 := count20 m1'
  have e5 := rcount25 r1
  have hs := wrap_succ hk
  refine ⟨(false, ((k + 1 : Nat) : Int)), w1, ?_, rfl, ⟨_, m1', r1⟩, ?_⟩
  · unfold g7_j12
    simp only [addr_add, Nat.zero_add, d0, d1, e1, c0, e2, e3, e4, e5, hs, Option.bind_some, asP_pointer, asB_bool, asI_int, asS_string, asSl_slice, asM_map, asTup0, asTup1, asTup2, asTup3, asTup4, asTup5, getD0, getD1, getD2, getD3, getD4, Bool.not_true, Bool.not_false, Bool.false_eq_true, Bool.true_eq_false, ↓reduceIte, decide_true, decide_false, Option.isNone_some, Option.isNone_none, Option.isSome_some, Option.isSome_none, beq_self_eq_true, bne_self_eq_false, Bool.and_true, Bool.true_and, Bool.and_false, Bool.false_and, not_true_eq_false, not_false_eq_true]
    split <;> rfl
  · have fd := Fr.drew [] w
    exact (Fr.mono (Fr.app (Fr.app hf fd) f1) (by have z0_ := Fr.size hf; have z1_ := Fr.size fd; have z2_ := Fr.size f1; intro y_ hy_ hl_; grind [blkOf]))

theorem marks_round {W w0 : World} {b1 b2 : Nat} (h1 : b1 = w0.heap.size) (h2 : b2 = (World.alloc w0 (.cells #[.int .u64 0, .int .u64 0, .int .u64 0, .int .u64 0] 51)).heap.size) (hne : b1 ≠ b2) (hW : W.heap.size ≤ b1) (hW2 : W.heap.size ≤ b2)
    {x0 : (Ty.slice (.cons (.int .i64) (.cons .bool .nil))).Val} (h0 : (Ty.slice (.cons (.int .i64) (.cons .bool .nil))).At W [.slice x0.1.1 x0.1.2.1 x0.1.2.2] x0)
    (hlen : x0.2.length < 9223372036854775808) (k : Nat) (s : Bool × Int) (w : World) (hk : k < x0.2.length) (hi : MInv W b1 b2 k s w) :
    ∃ s' w', g7_l4_b x0.1 w0 s w = some (.normal, s', w') ∧ MInv W b1 b2 (k + 1) s' w' := by
  obtain ⟨rfl, ⟨M, m1, m2⟩, hfr⟩ := hi
  have hold : Old W w := (Old.refl W).fr hfr (by simp)
  obtain ⟨a, cs, e1, g1, g2, g3⟩ := slice_get (at_old hold _ _ _ h0) hk
  have hll := h0.2.1
  generalize x0.2[k] = el at g3
  obtain ⟨rfl, _⟩ := at_int_bool g3
  obtain ⟨i, to, _⟩ := el
  simp only at g2 ⊢
  have e2 := g2.ldN (n := 2) rfl
  have hc : (k : Int) < (x0.1.2.1 : Int) := by omega
  have e3 : stL (w.alloc (.cells #[.int .i64 0, .bool false] 61)) ⟨w.heap.size, 0, none⟩ [.int .i64 i, .bool to] 0 = some (w.alloc (.cells #[.int .i64 i, .bool to] 61)) := stL_new rfl (by simp)
  have hn := Blk.new w [.int .i64 i, .bool to] 61
  have fa : Fr [] w (w.alloc (.cells #[.int .i64 i, .bool to] 61)) := Fr.alloc _
  have m1' := m1.fr fa (by simp)
  have m2' := m2.fr fa (by simp)
  have l1 := m1.lt
  have l2 := m2.lt
  have d0 := hn.cell 0
  have d1 := hn.cell 1
  change World.cell? (w.alloc (.cells #[.int .i64 i, .bool to] 61)) _ = some (.int .i64 i) at d0
  change World.cell? (w.alloc (.cells #[.int .i64 i, .bool to] 61)) _ = some (.bool to) at d1
  change Blk (w.alloc (.cells #[.int .i64 i, .bool to] 61)) _ _ _ at hn
  have esz : Ty.size (.cons (.int .i64) (.cons .bool .nil)) = 2 := rfl
  rw [esz] at e1
  have hw1 : (⟨w0.heap.size, 0, none⟩ : Addr) = ⟨b1, 0, none⟩ := by rw [h1]
  unfold g7_l4_b
  simp only [hc, e1, e2, e3, addr_add, Nat.zero_add, d1, d0, Option.bind_some, asP_pointer, asB_bool, asI_int, asS_string, asSl_slice, asM_map, asTup0, asTup1, asTup2, asTup3, asTup4, asTup5, getD0, getD1, getD2, getD3, getD4, Bool.not_true, Bool.not_false, Bool.false_eq_true, Bool.true_eq_false, ↓reduceIte, decide_true, decide_false, Option.isNone_some, Option.isNone_none, Option.isSome_some, Option.isSome_none, beq_self_eq_true, bne_self_eq_false, Bool.and_true, Bool.true_and, Bool.and_false, Bool.false_and, not_true_eq_false, not_false_eq_true]
  generalize w.alloc (.cells #[.int .i64 i, .bool to] 61) = v at *
  cases to with
  | true =>
    obtain ⟨v1, e4, m3, f1⟩ := set19 m1' i
    obtain ⟨s', w', e5, h5⟩ := tail12 (W := W) (w6 := w) (w0 := w0) (k := k) m3 (m2'.fr f1 (by simpa using Ne.symm hne)) (hn.fr f1 (by simp; omega)) h1 h2 hne (by omega) (by omega) hW hW2 (Fr.mono (Fr.app (Fr.app hfr fa) f1) (by have z0_ := Fr.size hfr; have z1_ := Fr.size fa; have z2_ := Fr.size f1; intro y_ hy_ hl_; grind [blkOf]))
    rw [← h1]
    exact ⟨s', w', by simp only [e4, e5, Option.bind_some, asP_pointer, asB_bool, asI_int, asS_string, asSl_slice, asM_map, asTup0, asTup1, asTup2, asTup3, asTup4, asTup5, getD0, getD1, getD2, getD3, getD4, Bool.not_true, Bool.not_false, Bool.false_eq_true, Bool.true_eq_false, ↓reduceIte, decide_true, decide_false, Option.isNone_some, Option.isNone_none, Option.isSome_some, Option.isSome_none, beq_self_eq_true, bne_self_eq_false, Bool.and_true, Bool.true_and, Bool.and_false, Bool.false_and, not_true_eq_false, not_false_eq_true], h5⟩
  | false =>
    obtain ⟨v1, e4, m3, f1⟩ := clear21 m1' i
    obtain ⟨s', w', e5, h5⟩ := tail12 (W := W) (w6 := w) (w0 := w0) (k := k) m3 (m2'.fr f1 (by simpa using Ne.symm hne)) (hn.fr f1 (by simp; omega)) h1 h2 hne (by omega) (by omega) hW hW2 (Fr.mono (Fr.app (Fr.app hfr fa) f1) (by have z0_ := Fr.size hfr; have z1_ := Fr.size fa; have z2_ := Fr.size f1; intro y_ hy_ hl_; grind [blkOf]))
    rw [← h1]
    exact ⟨s', w', by simp only [e4, e5, Option.bind_some, asP_pointer, asB_bool, asI_int, asS_string, asSl_slice, asM_map, asTup0, asTup1, asTup2, asTup3, asTup4, asTup5, getD0, getD1, getD2, getD3, getD4, Bool.not_true, Bool.not_false, Bool.false_eq_true, Bool.true_eq_false, ↓reduceIte, decide_true, decide_false, Option.isNone_some, Option.isNone_none, Option.isSome_some, Option.isSome_none, beq_self_eq_true, bne_self_eq_false, Bool.and_true, Bool.true_and, Bool.and_false, Bool.false_and, not_true_eq_false, not_false_eq_true], h5⟩

theorem zeros256 : (#[.bool false, .bool false, .bool false, .bool false, .bool false, .bool false, .bool false, .bool false, .bool false, .bool false, .bool false, .bool false, .bool false, .bool false, .bool false, .bool false, .bool false, .bool false, .bool false, .bool false, .bool false, .bool false, .bool false, .bool false, .bool false, .bool false, .bool false, .bool false, .bool false, .bool false, .bool false, .bool false, .bool false, .bool false, .bool false, .bool false, .bool false, .bool false, .bool false, .bool false, .bool false, .bool false, .bool false, .bool false, .bool false, .bool false, .bool false, .bool false, .bool false, .bool false, .bool false, .bool false, .bool false, .bool false, .bool false, .bool false, .bool false, .bool false, .bool false, .bool false, .bool false, .bool false, .bool false, .bool false, .bool false, .bool false, .bool false, .bool false, .bool false, .bool false, .bool false, .bool false, .bool false, .bool false, .bool false, .bool false, .bool false, .bool false, .bool false, .bool false, .bool false, .bool false, .bool false, .bool false, .bool false, .bool false, .bool false, .bool false, .bool false, .bool false, .bool false, .bool false, .bool false, .bool false, .bool false, .bool false, .bool false, .bool false, .bool false, .bool false, .bool false, .bool false, .bool false, .bool false, .bool false, .bool false, .bool false, .bool false, .bool false, .bool false, .bool false, .bool false, .bool false, .bool false, .bool false, .bool false, .bool false, .bool false, .bool false, .bool false, .bool false, .bool false, .bool false, .bool false, .bool false, .bool false, .bool false, .bool false, .bool false, .bool false, .bool false, .bool false, .bool false, .bool false, .bool false, .bool false, .bool false, .bool false, .bool false, .bool false, .bool false, .bool false, .bool false, .bool false, .bool false, .bool false, .bool false, .bool false, .bool false, .bool false, .bool false, .bool false, .bool false, .bool false, .bool false, .bool false, .bool false, .bool false, .bool false, .bool false, .bool false, .bool false, .bool false, .bool false, .bool false, .bool false, .bool false, .bool false, .bool false, .bool false, .bool false, .bool false, .bool false, .bool false, .bool false, .bool false, .bool false, .bool false, .bool false, .bool false, .bool false, .bool false, .bool false, .bool false, .bool false, .bool false, .bool false, .bool false, .bool false, .bool false, .bool false, .bool false, .bool false, .bool false, .bool false, .bool false, .bool false, .bool false, .bool false, .bool false, .bool false, .bool false, .bool false, .bool false, .bool false, .bool false, .bool false, .bool false, .bool false, .bool false, .bool false, .bool false, .bool false, .bool false, .bool false, .bool false, .bool false, .bool false, .bool false, .bool false, .bool false, .bool false, .bool false, .bool false, .bool false, .bool false, .bool false, .bool false, .bool false, .bool false, .bool false, .bool false, .bool false, .bool false, .bool false, .bool false, .bool false, .bool false, .bool false, .bool false, .bool false, .bool false, .bool false, .bool false, .bool false, .bool false, .bool false, .bool false, .bool false, .bool false, .bool false, .bool false, .bool false, .bool false, .bool false, .bool false] : Array Value) = ((List.range 256).map fun i => Value.bool ((fun _ => false) i)).toArray := by kernel_rfl

theorem GateMarks_main (W : World) (x0 : (Ty.slice (.cons (.int .i64) (.cons .bool .nil))).Val) (h0 : (Ty.slice (.cons (.int .i64) (.cons .bool .nil))).At W [.slice x0.1.1 x0.1.2.1 x0.1.2.2] x0) :
    ∃ w', callF Try.prog 7 #[.slice x0.1.1 x0.1.2.1 x0.1.2.2] W = some (.bool true, w') ∧ Fr [] W w' := by
  have hml : maxLen < 9223372036854775808 := by decide
  have hlen : x0.2.length < 9223372036854775808 := by have := h0.2.1; have := h0.2.2.1; have := h0.2.2.2.1; omega
  have f1 : Fr [] W (W.alloc (.cells #[.int .u64 0, .int .u64 0, .int .u64 0, .int .u64 0] 51)) := Fr.alloc _
  have m1 := Mk.new W
  have z1 : (W.alloc (.cells #[.int .u64 0, .int .u64 0, .int .u64 0, .int .u64 0] 51)).heap.size = W.heap.size + 1 := Array.size_push _
  obtain ⟨w1, hw1⟩ : ∃ w1, W.alloc (.cells #[.int .u64 0, .int .u64 0, .int .u64 0, .int .u64 0] 51) = w1 := ⟨_, rfl⟩
  rw [hw1] at f1 m1 z1
  have m2 : Rm (w1.alloc (.cells (#[.bool false, .bool false, .bool false, .bool false, .bool false, .bool false, .bool false, .bool false, .bool false, .bool false, .bool false, .bool false, .bool false, .bool false, .bool false, .bool false, .bool false, .bool false, .bool false, .bool false, .bool false, .bool false, .bool false, .bool false, .bool false, .bool false, .bool false, .bool false, .bool false, .bool false, .bool false, .bool false, .bool false, .bool false, .bool false, .bool false, .bool false, .bool false, .bool false, .bool false, .bool false, .bool false, .bool false, .bool false, .bool false, .bool false, .bool false, .bool false, .bool false, .bool false, .bool false, .bool false, .bool false, .bool false, .bool false, .bool false, .bool false, .bool false, .bool false, .bool false, .bool false, .bool false, .bool false, .bool false, .bool false, .bool false, .bool false, .bool false, .bool false, .bool false, .bool false, .bool false, .bool false, .bool false, .bool false, .bool false, .bool false, .bool false, .bool false, .bool false, .bool false, .bool false, .bool false, .bool false, .bool false, .bool false, .bool false, .bool false, .bool false, .bool false, .bool false, .bool false, .bool false, .bool false, .bool false, .bool false, .bool false, .bool false, .bool false, .bool false, .bool false, .bool false, .bool false, .bool false, .bool false, .bool false, .bool false, .bool false, .bool false, .bool false, .bool false, .bool false, .bool false, .bool false, .bool false, .bool false, .bool false, .bool false, .bool false, .bool false, .bool false, .bool false, .bool false, .bool false, .bool false, .bool false, .bool false, .bool false, .bool false, .bool false, .bool false, .bool false, .bool false, .bool false, .bool false, .bool false, .bool false, .bool false, .bool false, .bool false, .bool false, .bool false, .bool false, .bool false, .bool false, .bool false, .bool false, .bool false, .bool false, .bool false, .bool false, .bool false, .bool false, .bool false, .bool false, .bool false, .bool false, .bool false, .bool false, .bool false, .bool false, .bool false, .bool false, .bool false, .bool false, .bool false, .bool false, .bool false, .bool false, .bool false, .bool false, .bool false, .bool false, .bool false, .bool false, .bool false, .bool false, .bool false, .bool false, .bool false, .bool false, .bool false, .bool false, .bool false, .bool false, .bool false, .bool false, .bool false, .bool false, .bool false, .bool false, .bool false, .bool false, .bool false, .bool false, .bool false, .bool false, .bool false, .bool false, .bool false, .bool false, .bool false, .bool false, .bool false, .bool false, .bool false, .bool false, .bool false, .bool false, .bool false, .bool false, .bool false, .bool false, .bool false, .bool false, .bool false, .bool false, .bool false, .bool false, .bool false, .bool false, .bool false, .bool false, .bool false, .bool false, .bool false, .bool false, .bool false, .bool false, .bool false, .bool false, .bool false, .bool false, .bool false, .bool false, .bool false, .bool false, .bool false, .bool false, .bool false, .bool false, .bool false, .bool false, .bool false, .bool false, .bool false, .bool false, .bool false, .bool false, .bool false, .bool false, .bool false, .bool false, .bool false, .bool false, .bool false] : Array Value) 59)) w1.heap.size (fun _ => false) := by
    rw [zeros256]; exact Blk.new _ _ _
  have f2 : Fr [] w1 (w1.alloc (.cells (#[.bool false, .bool false, .bool false, .bool false, .bool false, .bool false, .bool false, .bool false, .bool false, .bool false, .bool false, .bool false, .bool false, .bool false, .bool false, .bool false, .bool false, .bool false, .bool false, .bool false, .bool false, .bool false, .bool false, .bool false, .bool false, .bool false, .bool false, .bool false, .bool false, .bool false, .bool false, .bool false, .bool false, .bool false, .bool false, .bool false, .bool false, .bool false, .bool false, .bool false, .bool false, .bool false, .bool false, .bool false, .bool false, .bool false, .bool false, .bool false, .bool false, .bool false, .bool false, .bool false, .bool false, .bool false, .bool false, .bool false, .bool false, .bool false, .bool false, .bool false, .bool false, .bool false, .bool false, .bool false, .bool false, .bool false, .bool false, .bool false, .bool false, .bool false, .bool false, .bool false, .bool false, .bool false, .bool false, .bool false, .bool false, .bool false, .bool false, .bool false, .bool false, .bool false, .bool false, .bool false, .bool false, .bool false, .bool false, .bool false, .bool false, .bool false, .bool false, .bool false, .bool false, .bool false, .bool false, .bool false, .bool false, .bool false, .bool false, .bool false, .bool false, .bool false, .bool false, .bool false, .bool false, .bool false, .bool false, .bool false, .bool false, .bool false, .bool false, .bool false, .bool false, .bool false, .bool false, .bool false, .bool false, .bool false, .bool false, .bool false, .bool false, .bool false, .bool false, .bool false, .bool false, .bool false, .bool false, .bool false, .bool false, .bool false, .bool false, .bool false, .bool false, .bool false, .bool false, .bool false, .bool false, .bool false, .bool false, .bool false, .bool false, .bool false, .bool false, .bool false, .bool false, .bool false, .bool false, .bool false, .bool false, .bool false, .bool false, .bool false, .bool false, .bool false, .bool false, .bool false, .bool false, .bool false, .bool false, .bool false, .bool false, .bool false, .bool false, .bool false, .bool false, .bool false, .bool false, .bool false, .bool false, .bool false, .bool false, .bool false, .bool false, .bool false, .bool false, .bool false, .bool false, .bool false, .bool false, .bool false, .bool false, .bool false, .bool false, .bool false, .bool false, .bool false, .bool false, .bool false, .bool false, .bool false, .bool false, .bool false, .bool false, .bool false, .bool false, .bool false, .bool false, .bool false, .bool false, .bool false, .bool false, .bool false, .bool false, .bool false, .bool false, .bool false, .bool false, .bool false, .bool false, .bool false, .bool false, .bool false, .bool false, .bool false, .bool false, .bool false, .bool false, .bool false, .bool false, .bool false, .bool false, .bool false, .bool false, .bool false, .bool false, .bool false, .bool false, .bool false, .bool false, .bool false, .bool false, .bool false, .bool false, .bool false, .bool false, .bool false, .bool false, .bool false, .bool false, .bool false, .bool false, .bool false, .bool false, .bool false, .bool false, .bool false, .bool false, .bool false, .bool false, .bool false, .bool false, .bool false, .bool false, .bool false, .bool false, .bool false] : Array Value) 59)) := Fr.alloc _
  obtain ⟨w2, hw2⟩ : ∃ w2, w1.alloc (.cells (#[.bool false, .bool false, .bool false, .bool false, .bool false, .bool false, .bool false, .bool false, .bool false, .bool false, .bool false, .bool false, .bool false, .bool false, .bool false, .bool false, .bool false, .bool false, .bool false, .bool false, .bool false, .bool false, .bool false, .bool false, .bool false, .bool false, .bool false, .bool false, .bool false, .bool false, .bool false, .bool false, .bool false, .bool false, .bool false, .bool false, .bool false, .bool false, .bool false, .bool false, .bool false, .bool false, .bool false, .bool false, .bool false, .bool false, .bool false, .bool false, .bool false, .bool false, .bool false, .bool false, .bool false, .bool false, .bool false, .bool false, .bool false, .bool false, .bool false, .bool false, .bool false, .bool false, .bool false, .bool false, .bool false, .bool false, .bool false, .bool false, .bool false, .bool false, .bool false, .bool false, .bool false, .bool false, .bool false, .bool false, .bool false, .bool false, .bool false, .bool false, .bool false, .bool false, .bool false, .bool false, .bool false, .bool false, .bool false, .bool false, .bool false, .bool false, .bool false, .bool false, .bool false, .bool false, .bool false, .bool false, .bool false, .bool false, .bool false, .bool false, .bool false, .bool false, .bool false, .bool false, .bool false, .bool false, .bool false, .bool false, .bool false, .bool false, .bool false, .bool false, .bool false, .bool false, .bool false, .bool false, .bool false, .bool false, .bool false, .bool false, .bool false, .bool false, .bool false, .bool false, .bool false, .bool false, .bool false, .bool false, .bool false, .bool false, .bool false, .bool false, .bool false, .bool false, .bool false, .bool false, .bool false, .bool false, .bool false, .bool false, .bool false, .bool false, .bool false, .bool false, .bool false, .bool false, .bool false, .bool false, .bool false, .bool false, .bool false, .bool false, .bool false, .bool false, .bool false, .bool false, .bool false, .bool false, .bool false, .bool false, .bool false, .bool false, .bool false, .bool false, .bool false, .bool false, .bool false, .bool false, .bool false, .bool false, .bool false, .bool false, .bool false, .bool false, .bool false, .bool false, .bool false, .bool false, .bool false, .bool false, .bool false, .bool false, .bool false, .bool false, .bool false, .bool false, .bool false, .bool false, .bool false, .bool false, .bool false, .bool false, .bool false, .bool false, .bool false, .bool false, .bool false, .bool false, .bool false, .bool false, .bool false, .bool false, .bool false, .bool false, .bool false, .bool false, .bool false, .bool false, .bool false, .bool false, .bool false, .bool false, .bool false, .bool false, .bool false, .bool false, .bool false, .bool false, .bool false, .bool false, .bool false, .bool false, .bool false, .bool false, .bool false, .bool false, .bool false, .bool false, .bool false, .bool false, .bool false, .bool false, .bool false, .bool false, .bool false, .bool false, .bool false, .bool false, .bool false, .bool false, .bool false, .bool false, .bool false, .bool false, .bool false, .bool false, .bool false, .bool false, .bool false, .bool false, .bool false, .bool false, .bool false, .bool false, .bool false, .bool false] : Array Value) 59) = w2 := ⟨_, rfl⟩
  rw [hw2] at f2 m2
  obtain ⟨w3, e3, f3⟩ := awake11 (w := w2)
  have m1' := (m1.fr f2 (by simp)).fr f3 (by simp)
  have m2' := m2.fr f3 (by simp)
  obtain ⟨t, w4, e4, i4⟩ := loopS_count (I := MInv W W.heap.size w1.heap.size) (n := x0.2.length) (b := g7_l4_b x0.1 W)
    (fun k s w hk hi => marks_round rfl (by rw [hw1]) (by omega) (Nat.le_refl _) (by omega) h0 hlen k s w hk hi)
    (fun s w hi => by
      obtain ⟨rfl, _, _⟩ := hi
      have := h0.2.1
      have hc : ¬ ((x0.2.length : Nat) : Int) < (x0.1.2.1 : Int) := by omega
      unfold g7_l4_b
      simp only [hc, Option.bind_some, asP_pointer, asB_bool, asI_int, asS_string, asSl_slice, asM_map, asTup0, asTup1, asTup2, asTup3, asTup4, asTup5, getD0, getD1, getD2, getD3, getD4, Bool.not_true, Bool.not_false, Bool.false_eq_true, Bool.true_eq_false, ↓reduceIte, decide_true, decide_false, Option.isNone_some, Option.isNone_none, Option.isSome_some, Option.isSome_none, beq_self_eq_true, bne_self_eq_false, Bool.and_true, Bool.true_and, Bool.and_false, Bool.false_and, not_true_eq_false, not_false_eq_true])
    (Nat.zero_le _) (k := 0) (s := (false, 0)) (w := w3) ⟨rfl, ⟨_, m1', m2'⟩, (Fr.mono (Fr.app (Fr.app f1 f2) f3) (by have z0_ := Fr.size f1; have z1_ := Fr.size f2; have z2_ := Fr.size f3; intro y_ hy_ hl_; grind [blkOf]))⟩
  obtain ⟨rfl, ⟨M, n1, n2⟩, f4⟩ := i4
  obtain ⟨t, w5, e5, g1, g2⟩ := loopS_countX 2 (I := fun k s x => s = (false, (k : Int) - 2) ∧ x = w4) (n := 262) (b := g7_l58_b W)
    (fun k s x hk ⟨hs, hx⟩ => by
      subst hs hx
      have e6 := has23 n1 ((k : Int) - 2)
      have e7 := rhas24 n2 ((k : Int) - 2)
      have hc : (k : Int) - 2 < 260 := by omega
      have hs : IntKind.i64.wrap ((k : Int) - 2 + 1) = ((k + 1 : Nat) : Int) - 2 := by rw [wrap_i64 (by omega) (by omega)]; omega
      refine ⟨(false, ((k + 1 : Nat) : Int) - 2), x, ?_, rfl, rfl⟩
      unfold g7_l58_b
      rw [hw1]
      simp only [hc, e6, e7, hs, Option.bind_some, asP_pointer, asB_bool, asI_int, asS_string, asSl_slice, asM_map, asTup0, asTup1, asTup2, asTup3, asTup4, asTup5, getD0, getD1, getD2, getD3, getD4, Bool.not_true, Bool.not_false, Bool.false_eq_true, Bool.true_eq_false, ↓reduceIte, decide_true, decide_false, Option.isNone_some, Option.isNone_none, Option.isSome_some, Option.isSome_none, beq_self_eq_true, bne_self_eq_false, Bool.and_true, Bool.true_and, Bool.and_false, Bool.false_and, not_true_eq_false, not_false_eq_true])
    (fun s x ⟨hs, hx⟩ => by
      subst hs hx
      have hc : ¬ ((262 : Nat) : Int) - 2 < 260 := by decide
      unfold g7_l58_b
      simp only [hc, Option.bind_some, asP_pointer, asB_bool, asI_int, asS_string, asSl_slice, asM_map, asTup0, asTup1, asTup2, asTup3, asTup4, asTup5, getD0, getD1, getD2, getD3, getD4, Bool.not_true, Bool.not_false, Bool.false_eq_true, Bool.true_eq_false, ↓reduceIte, decide_true, decide_false, Option.isNone_some, Option.isNone_none, Option.isSome_some, Option.isSome_none, beq_self_eq_true, bne_self_eq_false, Bool.and_true, Bool.true_and, Bool.and_false, Bool.false_and, not_true_eq_false, not_false_eq_true])
    (Nat.zero_le _) (k := 0) (s := (false, -2)) (w := w4) ⟨rfl, rfl⟩
  subst g2
  refine ⟨w5, g7_call ?_, f4⟩
  unfold g7
  rw [hw1, hw2]
  simp only [e3, g7_l4_x0_of e4, Option.bind_some, asP_pointer, asB_bool, asI_int, asS_string, asSl_slice, asM_map, asTup0, asTup1, asTup2, asTup3, asTup4, asTup5, getD0, getD1, getD2, getD3, getD4, Bool.not_true, Bool.not_false, Bool.false_eq_true, Bool.true_eq_false, ↓reduceIte, decide_true, decide_false, Option.isNone_some, Option.isNone_none, Option.isSome_some, Option.isSome_none, beq_self_eq_true, bne_self_eq_false, Bool.and_true, Bool.true_and, Bool.and_false, Bool.false_and, not_true_eq_false, not_false_eq_true]
  unfold g7_l4_x0
  simp only [g7_l58_x2_of e5, g7_l58_x2, Option.bind_some, asP_pointer, asB_bool, asI_int, asS_string, asSl_slice, asM_map, asTup0, asTup1, asTup2, asTup3, asTup4, asTup5, getD0, getD1, getD2, getD3, getD4, Bool.not_true, Bool.not_false, Bool.false_eq_true, Bool.true_eq_false, ↓reduceIte, decide_true, decide_false, Option.isNone_some, Option.isNone_none, Option.isSome_some, Option.isSome_none, beq_self_eq_true, bne_self_eq_false, Bool.and_true, Bool.true_and, Bool.and_false, Bool.false_and, not_true_eq_false, not_false_eq_true]
end Go.Proofs.Ytniibeofggdfoaa
