/-
  GateOnce: lemmas on what Go functions of this seat come to (for whatever arguments, as each says). No condition but those that stand in each lemma.
-/
import Derived.Test.YtniibeofggdfoaaGateF4
import Derived.Test.YtniibeofggdfoaaGateOnceC
namespace Go.Proofs.Ytniibeofggdfoaa
open Go Go.Ev
set_option maxRecDepth 100000
set_option linter.unusedVariables false
set_option linter.unusedSimpArgs false
section
variable {w : World}

theorem load40 {a : Addr} {n : Int} (h : w.cell? a = some (.int .u32 n)) : callF Try.prog 40 #[.pointer (some a)] w = some (.int .u32 n, w) := by
  unfold callF
  rw [run_call_load Try.func40 (by kernel_rfl) (by kernel_rfl) (by kernel_rfl) .u32 (by kernel_rfl) h]
  rfl
theorem store42 {a : Addr} {n : Int} {u : Value} (h : w.cell? a = some u) (hf : w.frozen? a = false) :
    callF Try.prog 42 #[.pointer (some a), .int .u32 n] w = some (.tuple #[], w.setCell a (.int .u32 n)) := by
  unfold callF
  rw [run_call_store Try.func42 (by kernel_rfl) (by kernel_rfl) (by kernel_rfl) (by kernel_rfl) h hf]
  rfl
theorem bload33 {a : Addr} {n : Int} (h : w.cell? a = some (.int .u32 n)) : callF Try.prog 33 #[.pointer (some a)] w = some (.bool (n != 0), w) :=
  g33_call (by unfold g33; simp only [load40 h, Option.bind_some, asP_pointer, asB_bool, asI_int, asS_string, asSl_slice, asM_map, asTup0, asTup1, asTup2, asTup3, asTup4, asTup5, getD0, getD1, getD2, getD3, getD4, Bool.not_true, Bool.not_false, Bool.false_eq_true, Bool.true_eq_false, ↓reduceIte, decide_true, decide_false, Option.isNone_some, Option.isNone_none, Option.isSome_some, Option.isSome_none, beq_self_eq_true, bne_self_eq_false, Bool.and_true, Bool.true_and, Bool.and_false, Bool.false_and, not_true_eq_false, not_false_eq_true])
theorem bstore36 {a : Addr} {u : Value} (h : w.cell? a = some u) (hf : w.frozen? a = false) :
    callF Try.prog 36 #[.pointer (some a), .bool true] w = some (.tuple #[], w.drew.setCell a (.int .u32 1)) := by
  have e : callF Try.prog 43 #[.bool true] w.drew = some (.int .u32 1, w.drew) := g43_call (by unfold g43; simp only [Option.bind_some, asP_pointer, asB_bool, asI_int, asS_string, asSl_slice, asM_map, asTup0, asTup1, asTup2, asTup3, asTup4, asTup5, getD0, getD1, getD2, getD3, getD4, Bool.not_true, Bool.not_false, Bool.false_eq_true, Bool.true_eq_false, ↓reduceIte, decide_true, decide_false, Option.isNone_some, Option.isNone_none, Option.isSome_some, Option.isSome_none, beq_self_eq_true, bne_self_eq_false, Bool.and_true, Bool.true_and, Bool.and_false, Bool.false_and, not_true_eq_false, not_false_eq_true])
  have h' : w.drew.cell? a = some u := h
  have hf' : w.drew.frozen? a = false := hf
  exact g36_call (by unfold g36; simp only [e, store42 h' hf', Option.bind_some, asP_pointer, asB_bool, asI_int, asS_string, asSl_slice, asM_map, asTup0, asTup1, asTup2, asTup3, asTup4, asTup5, getD0, getD1, getD2, getD3, getD4, Bool.not_true, Bool.not_false, Bool.false_eq_true, Bool.true_eq_false, ↓reduceIte, decide_true, decide_false, Option.isNone_some, Option.isNone_none, Option.isSome_some, Option.isSome_none, beq_self_eq_true, bne_self_eq_false, Bool.and_true, Bool.true_and, Bool.and_false, Bool.false_and, not_true_eq_false, not_false_eq_true])

theorem once_first {b : Nat} {s v0 n : Int} (h : Blk w b [.int .u32 0, .int .i32 0, .int .u32 s, .int .u32 0, .int .u64 v0] 77) :
    ∃ w', callF Try.prog 27 #[.pointer (some ⟨b, 0, none⟩), .int .u64 n] w = some (.int .u64 n, w') ∧
      Blk w' b [.int .u32 1, .int .i32 0, .int .u32 s, .int .u32 1, .int .u64 n] 77 ∧ Fr [b] w w' := by
  have hA := Blk.new w [.pointer (some ⟨b, 0, none⟩)] 65
  have hbA : b < w.heap.size := h.lt
  have h1 := (h.alloc (o := .cells #[.pointer (some ⟨b, 0, none⟩)] 65))
  change Blk (w.alloc (.cells #[.pointer (some ⟨b, 0, none⟩)] 65)) _ _ _ at hA
  have f1 : Fr [] w (w.alloc (.cells #[.pointer (some ⟨b, 0, none⟩)] 65)) := Fr.alloc _
  have hsz : (w.alloc (.cells #[.pointer (some ⟨b, 0, none⟩)] 65)).heap.size = w.heap.size + 1 := Array.size_push _
  generalize hw1 : w.alloc (.cells #[.pointer (some ⟨b, 0, none⟩)] 65) = w1 at hA h1 f1 hsz
  have hB := Blk.new w1 [.int .u64 n] 22
  have h2 := (h1.alloc (o := .cells #[.int .u64 n] 22))
  have hA2 := (hA.alloc (o := .cells #[.int .u64 n] 22))
  change Blk (w1.alloc (.cells #[.int .u64 n] 22)) _ _ _ at hB
  have f2 : Fr [] w (w1.alloc (.cells #[.int .u64 n] 22)) := f1.trans (Fr.alloc _)
  rw [hsz] at hB
  generalize hw2 : w1.alloc (.cells #[.int .u64 n] 22) = w2 at hB h2 hA2 f2
  -- the lock held
  have h3 := h2.set 1 (.int .i32 1)
  have fL : Fr [b] w2 (w2.setCell ⟨b, 1, none⟩ (.int .i32 1)) := Fr.setCell
  have hA3 := hA2.fr fL (by simp; omega)
  have hB3 := hB.fr fL (by simp; omega)
  have c0 : w2.cell? ⟨b, 0, none⟩ = some (.int .u32 0) := h2.cell 0
  have c1 : w2.cell? ⟨b, 1, none⟩ = some (.int .i32 0) := h2.cell 1
  have z0 := h2.frozen 0
  have z1 := h2.frozen 1
  have h4 := h3.set 4 (.int .u64 n)
  have fM : Fr [b] (w2.setCell ⟨b, 1, none⟩ (.int .i32 1)) ((w2.setCell ⟨b, 1, none⟩ (.int .i32 1)).setCell ⟨b, 4, none⟩ (.int .u64 n)) := Fr.setCell
  have hA4 := hA3.fr fM (by simp; omega)
  have eK : callF Try.prog 35 #[.pointer (some ⟨w.heap.size + 1, 0, none⟩), .pointer (some ⟨w.heap.size, 0, none⟩)] (w2.setCell ⟨b, 1, none⟩ (.int .i32 1)) =
      some (.tuple #[], ((w2.setCell ⟨b, 1, none⟩ (.int .i32 1)).setCell ⟨b, 4, none⟩ (.int .u64 n)).drew.setCell ⟨b, 3, none⟩ (.int .u32 1)) := by
    have d0 : (w2.setCell ⟨b, 1, none⟩ (.int .i32 1)).cell? ⟨w.heap.size, 0, none⟩ = some (.pointer (some ⟨b, 0, none⟩)) := hA3.cell 0
    have d1 : (w2.setCell ⟨b, 1, none⟩ (.int .i32 1)).cell? ⟨w.heap.size + 1, 0, none⟩ = some (.int .u64 n) := hB3.cell 0
    have d2 : ((w2.setCell ⟨b, 1, none⟩ (.int .i32 1)).setCell ⟨b, 4, none⟩ (.int .u64 n)).cell? ⟨w.heap.size, 0, none⟩ = some (.pointer (some ⟨b, 0, none⟩)) := hA4.cell 0
    have d3 : st1 (w2.setCell ⟨b, 1, none⟩ (.int .i32 1)) ⟨b, 4, none⟩ (.int .u64 n) = some ((w2.setCell ⟨b, 1, none⟩ (.int .i32 1)).setCell ⟨b, 4, none⟩ (.int .u64 n)) := h3.st1 (by simp) rfl
    have d4 := bstore36 (h4.cell 3) (h4.frozen 3)
    refine g35_call ?_
    unfold g35
    simp only [d0, d1, addr_add, Nat.zero_add, d3, d2, d4, Option.bind_some, asP_pointer, asB_bool, asI_int, asS_string, asSl_slice, asM_map, asTup0, asTup1, asTup2, asTup3, asTup4, asTup5, getD0, getD1, getD2, getD3, getD4, Bool.not_true, Bool.not_false, Bool.false_eq_true, Bool.true_eq_false, ↓reduceIte, decide_true, decide_false, Option.isNone_some, Option.isNone_none, Option.isSome_some, Option.isSome_none, beq_self_eq_true, bne_self_eq_false, Bool.and_true, Bool.true_and, Bool.and_false, Bool.false_and, not_true_eq_false, not_false_eq_true]
  have h5 := h4.drew.set 3 (.int .u32 1)
  have fN : Fr [b] ((w2.setCell ⟨b, 1, none⟩ (.int .i32 1)).setCell ⟨b, 4, none⟩ (.int .u64 n)).drew (((w2.setCell ⟨b, 1, none⟩ (.int .i32 1)).setCell ⟨b, 4, none⟩ (.int .u64 n)).drew.setCell ⟨b, 3, none⟩ (.int .u32 1)) := Fr.setCell
  have f5 : Fr [b] w2 (((w2.setCell ⟨b, 1, none⟩ (.int .i32 1)).setCell ⟨b, 4, none⟩ (.int .u64 n)).drew.setCell ⟨b, 3, none⟩ (.int .u32 1)) := ((fL.trans fM).trans (Fr.drew _ _)).trans fN
  generalize ((w2.setCell ⟨b, 1, none⟩ (.int .i32 1)).setCell ⟨b, 4, none⟩ (.int .u64 n)).drew.setCell ⟨b, 3, none⟩ (.int .u32 1) = w3 at eK h5 f5
  have hA5 := hA2.fr f5 (by simp; omega)
  have hS := slow_first b 0 ⟨w.heap.size + 1, 0, none⟩ ⟨w.heap.size, 0, none⟩ w2 w3 c0 c1 z0 z1 ((calls_of_callF Try.call35 eK).mono fun e w' h => h) (h5.cell 0) (h5.cell 1) (h5.frozen 0) (h5.frozen 1)
  simp only [Nat.zero_add] at hS
  have eS := callF_of_calls Try.call41 (by kernel_rfl) hS
  have h6 := (h5.drew.set 0 (.int .u32 1)).set 1 (.int .i32 0)
  have f6 : Fr [b] w3 ((w3.drew.setCell ⟨b, 0, none⟩ (.int .u32 1)).setCell ⟨b, 1, none⟩ (.int .i32 0)) := ((Fr.drew _ _).trans Fr.setCell).trans Fr.setCell
  have hA6 := hA5.fr f6 (by simp; omega)
  generalize (w3.drew.setCell ⟨b, 0, none⟩ (.int .u32 1)).setCell ⟨b, 1, none⟩ (.int .i32 0) = w4 at eS h6 f6 hA6
  have e33 := bload33 c0
  have e34 : callF Try.prog 34 #[.pointer (some ⟨b, 0, none⟩), .func (.func 35) #[] #[.pointer (some ⟨w.heap.size + 1, 0, none⟩), .pointer (some ⟨w.heap.size, 0, none⟩)]] w2 = some (.tuple #[], w4) := by
    refine g34_call ?_
    unfold g34
    simp only [e33, eS, Option.bind_some, asP_pointer, asB_bool, asI_int, asS_string, asSl_slice, asM_map, asTup0, asTup1, asTup2, asTup3, asTup4, asTup5, getD0, getD1, getD2, getD3, getD4, Bool.not_true, Bool.not_false, Bool.false_eq_true, Bool.true_eq_false, ↓reduceIte, decide_true, decide_false, Option.isNone_some, Option.isNone_none, Option.isSome_some, Option.isSome_none, beq_self_eq_true, bne_self_eq_false, Bool.and_true, Bool.true_and, Bool.and_false, Bool.false_and, not_true_eq_false, not_false_eq_true]
  refine ⟨w4, g27_call ?_, h6, ?_⟩
  · have d0 : w2.cell? ⟨w.heap.size, 0, none⟩ = some (.pointer (some ⟨b, 0, none⟩)) := hA2.cell 0
    have d1 : w4.cell? ⟨w.heap.size, 0, none⟩ = some (.pointer (some ⟨b, 0, none⟩)) := hA6.cell 0
    have d2 : w4.cell? ⟨b, 4, none⟩ = some (.int .u64 n) := h6.cell 4
    unfold g27
    rw [hw1, hw2]
    simp only [hsz, d0, e34, d1, addr_add, Nat.zero_add, d2, Option.bind_some, asP_pointer, asB_bool, asI_int, asS_string, asSl_slice, asM_map, asTup0, asTup1, asTup2, asTup3, asTup4, asTup5, getD0, getD1, getD2, getD3, getD4, Bool.not_true, Bool.not_false, Bool.false_eq_true, Bool.true_eq_false, ↓reduceIte, decide_true, decide_false, Option.isNone_some, Option.isNone_none, Option.isSome_some, Option.isSome_none, beq_self_eq_true, bne_self_eq_false, Bool.and_true, Bool.true_and, Bool.and_false, Bool.false_and, not_true_eq_false, not_false_eq_true]
  · exact (f2.nil.trans f5).trans f6

theorem once_done {b : Nat} {s v n : Int} (h : Blk w b [.int .u32 1, .int .i32 0, .int .u32 s, .int .u32 1, .int .u64 v] 77) :
    ∃ w', callF Try.prog 27 #[.pointer (some ⟨b, 0, none⟩), .int .u64 n] w = some (.int .u64 v, w') ∧
      Blk w' b [.int .u32 1, .int .i32 0, .int .u32 s, .int .u32 1, .int .u64 v] 77 ∧ Fr [b] w w' := by
  have hA := Blk.new w [.pointer (some ⟨b, 0, none⟩)] 65
  have hA2 := hA.alloc (o := .cells #[.int .u64 n] 22)
  have h2 := (h.alloc (o := .cells #[.pointer (some ⟨b, 0, none⟩)] 65)).alloc (o := .cells #[.int .u64 n] 22)
  change Blk ((w.alloc (.cells #[.pointer (some ⟨b, 0, none⟩)] 65)).alloc (.cells #[.int .u64 n] 22)) _ _ _ at hA2
  have f2 : Fr [] w ((w.alloc (.cells #[.pointer (some ⟨b, 0, none⟩)] 65)).alloc (.cells #[.int .u64 n] 22)) := (Fr.alloc _).trans (Fr.alloc _)
  refine ⟨_, g27_call ?_, h2, f2.nil⟩
  unfold g27
  generalize hv : (w.alloc (.cells #[.pointer (some ⟨b, 0, none⟩)] 65)).alloc (.cells #[.int .u64 n] 22) = w2 at hA2 h2 f2
  have c0 : w2.cell? ⟨b, 0, none⟩ = some (.int .u32 1) := h2.cell 0
  have d0 : w2.cell? ⟨w.heap.size, 0, none⟩ = some (.pointer (some ⟨b, 0, none⟩)) := hA2.cell 0
  have d2 : w2.cell? ⟨b, 4, none⟩ = some (.int .u64 v) := h2.cell 4
  have e33 := bload33 c0
  have e34 : ∀ u, callF Try.prog 34 #[.pointer (some ⟨b, 0, none⟩), u] w2 = some (.tuple #[], w2) := by
    intro u
    refine g34_call ?_
    have h10 : ((1 : Int) != 0) = true := by decide
    unfold g34
    simp only [e33, h10, Option.bind_some, asP_pointer, asB_bool, asI_int, asS_string, asSl_slice, asM_map, asTup0, asTup1, asTup2, asTup3, asTup4, asTup5, getD0, getD1, getD2, getD3, getD4, Bool.not_true, Bool.not_false, Bool.false_eq_true, Bool.true_eq_false, ↓reduceIte, decide_true, decide_false, Option.isNone_some, Option.isNone_none, Option.isSome_some, Option.isSome_none, beq_self_eq_true, bne_self_eq_false, Bool.and_true, Bool.true_and, Bool.and_false, Bool.false_and, not_true_eq_false, not_false_eq_true]
  simp only [d0, e34, addr_add, Nat.zero_add, d2, Option.bind_some, asP_pointer, asB_bool, asI_int, asS_string, asSl_slice, asM_map, asTup0, asTup1, asTup2, asTup3, asTup4, asTup5, getD0, getD1, getD2, getD3, getD4, Bool.not_true, Bool.not_false, Bool.false_eq_true, Bool.true_eq_false, ↓reduceIte, decide_true, decide_false, Option.isNone_some, Option.isNone_none, Option.isSome_some, Option.isSome_none, beq_self_eq_true, bne_self_eq_false, Bool.and_true, Bool.true_and, Bool.and_false, Bool.false_and, not_true_eq_false, not_false_eq_true]

theorem value26 {b : Nat} {d s t v : Int} (h : Blk w b [.int .u32 d, .int .i32 0, .int .u32 s, .int .u32 t, .int .u64 v] 77) (ht : t = 0 ∧ v = 0 ∨ t = 1) :
    callF Try.prog 26 #[.pointer (some ⟨b, 0, none⟩)] w = some (.tuple #[.int .u64 v, .bool (t != 0)], w) := by
  have c3 : w.cell? ⟨b, 3, none⟩ = some (.int .u32 t) := h.cell 3
  have c4 : w.cell? ⟨b, 4, none⟩ = some (.int .u64 v) := h.cell 4
  have e33 := bload33 c3
  refine g26_call ?_
  unfold g26
  rcases ht with ⟨rfl, rfl⟩ | rfl
  · simp only [addr_add, Nat.zero_add, e33, Option.bind_some, asP_pointer, asB_bool, asI_int, asS_string, asSl_slice, asM_map, asTup0, asTup1, asTup2, asTup3, asTup4, asTup5, getD0, getD1, getD2, getD3, getD4, Bool.not_true, Bool.not_false, Bool.false_eq_true, Bool.true_eq_false, ↓reduceIte, decide_true, decide_false, Option.isNone_some, Option.isNone_none, Option.isSome_some, Option.isSome_none, beq_self_eq_true, bne_self_eq_false, Bool.and_true, Bool.true_and, Bool.and_false, Bool.false_and, not_true_eq_false, not_false_eq_true]
  · have h10 : ((1 : Int) != 0) = true := by decide
    simp only [addr_add, Nat.zero_add, e33, h10, c4, Option.bind_some, asP_pointer, asB_bool, asI_int, asS_string, asSl_slice, asM_map, asTup0, asTup1, asTup2, asTup3, asTup4, asTup5, getD0, getD1, getD2, getD3, getD4, Bool.not_true, Bool.not_false, Bool.false_eq_true, Bool.true_eq_false, ↓reduceIte, decide_true, decide_false, Option.isNone_some, Option.isNone_none, Option.isSome_some, Option.isSome_none, beq_self_eq_true, bne_self_eq_false, Bool.and_true, Bool.true_and, Bool.and_false, Bool.false_and, not_true_eq_false, not_false_eq_true]
end

structure OInv (W : World) (b : Nat) (zs : List Int) (k : Nat) (s : Bool × Int) (w : World) : Prop where
  cnt : s = (false, (k : Int))
  fr : Fr [] W w
  st : (k = 0 ∧ Blk w b [.int .u32 0, .int .i32 0, .int .u32 0, .int .u32 0, .int .u64 0] 77) ∨
    (0 < k ∧ Blk w b [.int .u32 1, .int .i32 0, .int .u32 0, .int .u32 1, .int .u64 (zs.getD 0 0)] 77)

theorem at_int {w : World} {k : IntKind} {cs : List Value} {x : Int} (h : (Ty.int k).At w cs x) : cs = [.int k x] := h.1

theorem once_round {W : World} {x0 : (Ty.slice (.int .u64)).Val} (h0 : (Ty.slice (.int .u64)).At W [.slice x0.1.1 x0.1.2.1 x0.1.2.2] x0) (hlen : x0.2.length < 9223372036854775808)
    (k : Nat) (s : Bool × Int) (w : World) (hk : k < x0.2.length) (hi : OInv W W.heap.size x0.2 k s w) :
    ∃ s' w', g8_l8_b x0.1 W s w = some (.normal, s', w') ∧ OInv W W.heap.size x0.2 (k + 1) s' w' := by
  obtain ⟨rfl, hf, hst⟩ := hi
  have hold : Old W w := (Old.refl W).fr hf (by simp)
  obtain ⟨a, cs, e1, g1, g2, g3⟩ := slice_get (at_old hold _ _ _ h0) hk
  obtain ⟨a0, cs0, e10, g10, g20, g30⟩ := slice_get h0 (i := 0) (by omega)
  have hll := h0.2.1
  obtain rfl := at_int g3
  obtain rfl := at_int g30
  have esz : Ty.size (.int .u64) = 1 := rfl
  rw [esz] at e1 e10
  simp only [Int.natCast_zero] at e10
  have c1 : w.cell? a = some (.int .u64 x0.2[k]) := by simpa [Addr.add] using g2 0 (by simp)
  have c10 : ∀ w', Fr [] W w' → w'.cell? a0 = some (.int .u64 (x0.2.getD 0 0)) := by
    intro w' hf'
    have h1 : W.cell? a0 = some (.int .u64 x0.2[0]) := by simpa [Addr.add] using g20 0 (by simp)
    have := ((Old.refl W).fr hf' (by simp)).cell h1
    rw [this, getD_lt (by omega)]
  have hc : (k : Int) < (x0.1.2.1 : Int) := by omega
  have hnk : ¬ (k : Int) < 0 := by omega
  have hs := wrap_succ (n := k) (by omega)
  have step : ∃ w', callF Try.prog 27 #[.pointer (some ⟨W.heap.size, 0, none⟩), .int .u64 x0.2[k]] w.drew = some (.int .u64 (x0.2.getD 0 0), w') ∧
      Blk w' W.heap.size [.int .u32 1, .int .i32 0, .int .u32 0, .int .u32 1, .int .u64 (x0.2.getD 0 0)] 77 ∧ Fr [W.heap.size] w w' := by
    rcases hst with ⟨rfl, hb⟩ | ⟨hp, hb⟩
    · obtain ⟨w', e, hb', hf'⟩ := once_first (n := x0.2[0]) hb.drew
      have : x0.2.getD 0 0 = x0.2[0] := getD_lt (by omega)
      rw [this]
      exact ⟨w', e, hb', (Fr.drew _ _).trans hf'⟩
    · obtain ⟨w', e, hb', hf'⟩ := once_done (n := x0.2[k]) hb.drew
      exact ⟨w', e, hb', (Fr.drew _ _).trans hf'⟩
  obtain ⟨w1, e2, hb1, hf1⟩ := step
  have hfW : Fr [] W w1 := (hf.nil.trans hf1).mono (by intro y hy hlt; simp at hy; omega)
  have e3 := value26 hb1 (.inr rfl)
  have h10 : ((1 : Int) != 0) = true := by decide
  rw [h10] at e3
  have c2 := c10 w1 hfW
  have c3 := c10 w.drew (hf.trans (Fr.drew _ _))
  refine ⟨(false, ((k + 1 : Nat) : Int)), w1, ?_, rfl, hfW, .inr ⟨by omega, hb1⟩⟩
  generalize x0.2.getD 0 0 = z at *
  generalize x0.2[k] = y at *
  unfold g8_l8_b
  simp only [hc, e1, c1, e10, Option.bind_some, asP_pointer, asB_bool, asI_int, asS_string, asSl_slice, asM_map, asTup0, asTup1, asTup2, asTup3, asTup4, asTup5, getD0, getD1, getD2, getD3, getD4, Bool.not_true, Bool.not_false, Bool.false_eq_true, Bool.true_eq_false, ↓reduceIte, decide_true, decide_false, Option.isNone_some, Option.isNone_none, Option.isSome_some, Option.isSome_none, beq_self_eq_true, bne_self_eq_false, Bool.and_true, Bool.true_and, Bool.and_false, Bool.false_and, not_true_eq_false, not_false_eq_true]
  generalize (ahd _ 2 5) = bo
  cases bo
  · simp only [c3, e2, e3, e10, c2, hnk, hs, Option.bind_some, asP_pointer, asB_bool, asI_int, asS_string, asSl_slice, asM_map, asTup0, asTup1, asTup2, asTup3, asTup4, asTup5, getD0, getD1, getD2, getD3, getD4, Bool.not_true, Bool.not_false, Bool.false_eq_true, Bool.true_eq_false, ↓reduceIte, decide_true, decide_false, Option.isNone_some, Option.isNone_none, Option.isSome_some, Option.isSome_none, beq_self_eq_true, bne_self_eq_false, Bool.and_true, Bool.true_and, Bool.and_false, Bool.false_and, not_true_eq_false, not_false_eq_true]
  · simp only [e2, c2, e3, e10, hnk, hs, Option.bind_some, asP_pointer, asB_bool, asI_int, asS_string, asSl_slice, asM_map, asTup0, asTup1, asTup2, asTup3, asTup4, asTup5, getD0, getD1, getD2, getD3, getD4, Bool.not_true, Bool.not_false, Bool.false_eq_true, Bool.true_eq_false, ↓reduceIte, decide_true, decide_false, Option.isNone_some, Option.isNone_none, Option.isSome_some, Option.isSome_none, beq_self_eq_true, bne_self_eq_false, Bool.and_true, Bool.true_and, Bool.and_false, Bool.false_and, not_true_eq_false, not_false_eq_true]

theorem once_main (W : World) (x0 : (Ty.slice (.int .u64)).Val) (h0 : (Ty.slice (.int .u64)).At W [.slice x0.1.1 x0.1.2.1 x0.1.2.2] x0) :
    ∃ w', callF Try.prog 8 #[.slice x0.1.1 x0.1.2.1 x0.1.2.2] W = some (.bool true, w') ∧ Fr [] W w' := by
  have hml : maxLen < 9223372036854775808 := by decide
  have hlen : x0.2.length < 9223372036854775808 := by have := h0.2.1; have := h0.2.2.1; have := h0.2.2.2.1; omega
  have hb := Blk.new W [.int .u32 0, .int .i32 0, .int .u32 0, .int .u32 0, .int .u64 0] 77
  change Blk (W.alloc (.cells #[.int .u32 0, .int .i32 0, .int .u32 0, .int .u32 0, .int .u64 0] 77)) _ _ _ at hb
  have f1 : Fr [] W (W.alloc (.cells #[.int .u32 0, .int .i32 0, .int .u32 0, .int .u32 0, .int .u64 0] 77)) := Fr.alloc _
  have e1 := value26 hb (.inl ⟨rfl, rfl⟩)
  obtain ⟨w2, e2, f2⟩ := awake11 (w := W.alloc (.cells #[.int .u32 0, .int .i32 0, .int .u32 0, .int .u32 0, .int .u64 0] 77))
  have hb2 := hb.fr f2 (by simp)
  obtain ⟨t, w3, e3, i3⟩ := loopS_count (I := OInv W W.heap.size x0.2) (n := x0.2.length) (b := g8_l8_b x0.1 W)
    (fun k s w hk hi => once_round h0 hlen k s w hk hi)
    (fun s w hi => by
      obtain ⟨rfl, _, _⟩ := hi
      have := h0.2.1
      have hc : ¬ ((x0.2.length : Nat) : Int) < (x0.1.2.1 : Int) := by omega
      unfold g8_l8_b
      simp only [hc, Option.bind_some, asP_pointer, asB_bool, asI_int, asS_string, asSl_slice, asM_map, asTup0, asTup1, asTup2, asTup3, asTup4, asTup5, getD0, getD1, getD2, getD3, getD4, Bool.not_true, Bool.not_false, Bool.false_eq_true, Bool.true_eq_false, ↓reduceIte, decide_true, decide_false, Option.isNone_some, Option.isNone_none, Option.isSome_some, Option.isSome_none, beq_self_eq_true, bne_self_eq_false, Bool.and_true, Bool.true_and, Bool.and_false, Bool.false_and, not_true_eq_false, not_false_eq_true])
    (Nat.zero_le _) (s := (false, 0)) (w := w2) ⟨rfl, f1.trans f2, .inl ⟨rfl, hb2⟩⟩
  refine ⟨w3, g8_call ?_, i3.fr⟩
  unfold g8
  simp only [e1, e2, g8_l8_x0_of e3, g8_l8_x0, Option.bind_some, asP_pointer, asB_bool, asI_int, asS_string, asSl_slice, asM_map, asTup0, asTup1, asTup2, asTup3, asTup4, asTup5, getD0, getD1, getD2, getD3, getD4, Bool.not_true, Bool.not_false, Bool.false_eq_true, Bool.true_eq_false, ↓reduceIte, decide_true, decide_false, Option.isNone_some, Option.isNone_none, Option.isSome_some, Option.isSome_none, beq_self_eq_true, bne_self_eq_false, Bool.and_true, Bool.true_and, Bool.and_false, Bool.false_and, not_true_eq_false, not_false_eq_true]
end Go.Proofs.Ytniibeofggdfoaa
