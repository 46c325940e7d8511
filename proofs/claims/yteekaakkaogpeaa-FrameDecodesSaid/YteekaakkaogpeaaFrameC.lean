/-
  FrameC: lemmas on what Go functions of this seat come to (for whatever arguments, as each says). No condition but those that stand in each lemma.
-/
import Derived.Test.YteekaakkaogpeaaFrameCrcX
import Derived.Test.YteekaakkaogpeaaFrameF1
namespace Go.Proofs.Yteekaakkaogpeaa
open Go Go.Ev Go.Crc
set_option maxRecDepth 100000
set_option linter.unusedVariables false
set_option linter.unusedSimpArgs false

/-- four bytes, the least one first -/
def le4 (n : Int) : List Int := [n % 256, n / 256 % 256, n / 65536 % 256, n / 16777216 % 256]

theorem w8 (n : Int) : IntKind.u8.wrap n = n % 256 := by simp [IntKind.wrap, IntKind.bits, IntKind.signed]
theorem w32 (n : Int) : IntKind.u32.wrap n = n % 4294967296 := by simp [IntKind.wrap, IntKind.bits, IntKind.signed]
theorem le4_zs {n : Int} : Zs (le4 n) := by
  intro z hz
  simp only [le4, List.mem_cons, List.not_mem_nil, or_false] at hz
  rcases hz with rfl | rfl | rfl | rfl <;> omega
theorem fdivp {n : Int} (h : 0 ≤ n) (k : Nat) : Int.fdiv n (2 ^ k) = n / (2 ^ k) := by
  have e : (2 : Int) ^ k = ((2 ^ k : Nat) : Int) := by simp
  rw [e]
  exact Int.fdiv_eq_ediv_of_nonneg _ (Int.natCast_nonneg _)
theorem le4_wr {n : Int} (h : 0 ≤ n ∧ n < 4294967296) :
    [IntKind.u8.wrap n, IntKind.u8.wrap (Int.fdiv n (2 ^ (min (Int.toNat 8) 32))), IntKind.u8.wrap (Int.fdiv n (2 ^ (min (Int.toNat 16) 32))), IntKind.u8.wrap (Int.fdiv n (2 ^ (min (Int.toNat 24) 32)))] = le4 n := by
  rw [fdivp h.1, fdivp h.1, fdivp h.1]
  have e1 : (2 : Int) ^ (min (Int.toNat 8) 32) = 256 := by decide
  have e2 : (2 : Int) ^ (min (Int.toNat 16) 32) = 65536 := by decide
  have e3 : (2 : Int) ^ (min (Int.toNat 24) 32) = 16777216 := by decide
  rw [e1, e2, e3]
  simp only [w8, le4]
theorem le4_ref {n : Int} (h : 0 ≤ n ∧ n < 4294967296) :
    [IntKind.u8.wrap (Int.tmod n 256), IntKind.u8.wrap (Int.tmod (IntKind.u32.wrap (Int.tdiv n 256)) 256), IntKind.u8.wrap (Int.tmod (IntKind.u32.wrap (Int.tdiv n 65536)) 256), IntKind.u8.wrap (IntKind.u32.wrap (Int.tdiv n 16777216))] = le4 n := by
  rw [Int.tdiv_eq_ediv_of_nonneg h.1, Int.tdiv_eq_ediv_of_nonneg h.1, Int.tdiv_eq_ediv_of_nonneg h.1, Int.tmod_eq_emod_of_nonneg h.1]
  simp only [w8, w32, le4]
  rw [Int.tmod_eq_emod_of_nonneg (by omega), Int.tmod_eq_emod_of_nonneg (by omega)]
  simp only [List.cons.injEq, and_true]
  refine ⟨by omega, by omega, by omega, by omega⟩

section
variable {w : World}

/-- a new row of bytes reads as them -/
theorem sl_new {bs : List Int} : Sl8 (w.alloc (.cells (bs.map (Value.int .u8)).toArray 5)) (some ⟨w.heap.size, 0, none⟩, bs.length, bs.length) bs := by
  have hb := Blk.new w (bs.map (Value.int .u8)) 5
  refine ⟨rfl, fun _ => ⟨w.heap.size, 0, rfl, hb.lt, fun i hi => ?_⟩⟩
  rw [hb.cell]
  simp [hi]

theorem own_new {bs : List Int} (hl : bs.length ≤ maxLen) : Own (w.alloc (.cells (bs.map (Value.int .u8)).toArray 5)) 5 1 (some ⟨w.heap.size, 0, none⟩, bs.length, bs.length) (bs.map (Value.int .u8)) :=
  ⟨by simp, Nat.le_refl _, hl, .inr ⟨w.heap.size, 0, (bs.map (Value.int .u8)).toArray, rfl, alloc_blk_new _, by simp, by simpa using List.take_of_length_le (by simp)⟩⟩

/-- a writer: what was laid -/
structure Wr (w : World) (b : Nat) (q : Option Addr × Nat × Nat) (bs : List Int) : Prop where
  blk : Blk w b [.slice q.1 q.2.1 q.2.2, .int .i64 0] 85
  own : Own w 5 1 q (bs.map (Value.int .u8))
  nb : b ∉ blkOf q

theorem new24 : callF Try.prog 24 #[] w = some (.pointer (some ⟨w.heap.size, 0, none⟩), w.alloc (.cells #[.slice none 0 0, .int .i64 0] 85)) ∧
    Wr (w.alloc (.cells #[.slice none 0 0, .int .i64 0] 85)) w.heap.size (none, 0, 0) [] :=
  ⟨g24_call (by unfold g24; rfl), ⟨Blk.new w [.slice none 0 0, .int .i64 0] 85, Own.nil _ _ _, by simp [blkOf]⟩⟩

theorem fixed25 {b : Nat} {q : Option Addr × Nat × Nat} {bs : List Int} {n : Int} (h : Wr w b q bs) (hn : 0 ≤ n ∧ n < 4294967296) (hl : bs.length ≤ 4194300) :
    ∃ q' w', callF Try.prog 25 #[.pointer (some ⟨b, 0, none⟩), .int .u32 n] w = some (.tuple #[], w') ∧ Wr w' b q' (bs ++ le4 n) ∧ Fr (b :: blkOf q) w w' ∧ (∀ y ∈ blkOf q', y ∈ blkOf q ∨ w.heap.size ≤ y) := by
  have f0 : Fr [] w (w.alloc (.cells ((le4 n).map (Value.int .u8)).toArray 5)) := Fr.alloc _
  have hs := sl_new (w := w) (bs := le4 n)
  have hb0 := h.blk.fr f0 (by simp)
  have ho0 := h.own.fr f0 (by simp)
  have c0 : w.cell? ⟨b, 0, none⟩ = some (.slice q.1 q.2.1 q.2.2) := h.blk.cell 0
  have hbl := h.blk.lt
  have hsz : (w.alloc (.cells ((le4 n).map (Value.int .u8)).toArray 5)).heap.size = w.heap.size + 1 := Array.size_push _
  have harr : (#[.int .u8 (IntKind.u8.wrap n), .int .u8 (IntKind.u8.wrap (Int.fdiv n (2 ^ (min (Int.toNat 8) 32)))), .int .u8 (IntKind.u8.wrap (Int.fdiv n (2 ^ (min (Int.toNat 16) 32)))), .int .u8 (IntKind.u8.wrap (Int.fdiv n (2 ^ (min (Int.toNat 24) 32))))] : Array Value) = ((le4 n).map (Value.int .u8)).toArray := by
    rw [← le4_wr hn]; rfl
  generalize hw1 : w.alloc (.cells ((le4 n).map (Value.int .u8)).toArray 5) = w1 at f0 hs hb0 ho0 hsz
  obtain ⟨q', w2, e2, o2, f2, hv⟩ := app8 ho0 hs (by simp [le4]; omega) #[false, false]
  have hb2 := hb0.fr f2 h.nb
  have hst : st1 w2 ⟨b, 0, none⟩ (.slice q'.1 q'.2.1 q'.2.2) = some (w2.setCell ⟨b, 0, none⟩ (.slice q'.1 q'.2.1 q'.2.2)) := hb2.st1 (by simp) rfl
  have hin : ∀ y ∈ blkOf q', y ∈ blkOf q ∨ w1.heap.size ≤ y := by
    intro y hy
    rcases hv with hv | hv
    · left; simp only [blkOf] at hy ⊢; rw [hv] at hy; exact hy
    · right; rw [hv] at hy; simp at hy; omega
  have nb' : b ∉ blkOf q' := fun hm => by rcases hin b hm with hh | hh; exact h.nb hh; omega
  have f3 : Fr [b] w2 (w2.setCell ⟨b, 0, none⟩ (.slice q'.1 q'.2.1 q'.2.2)) := Fr.setCell
  refine ⟨q', w2.setCell ⟨b, 0, none⟩ (.slice q'.1 q'.2.1 q'.2.2), g25_call ?_, ⟨hb2.set 0 _, o2.fr f3 (by intro y hy hm; simp at hm; subst hm; exact nb' hy), nb'⟩, ?_, ?_⟩
  · unfold g25
    rw [harr, hw1]
    have hll : (le4 n).length = 4 := rfl
    simp only [hll] at e2
    simp only [c0, e2, hst, Option.bind_some, asP_pointer, asB_bool, asI_int, asS_string, asSl_slice, asM_map, asTup0, asTup1, asTup2, asTup3, asTup4, asTup5, getD0, getD1, getD2, getD3, getD4, Bool.not_true, Bool.not_false, Bool.false_eq_true, Bool.true_eq_false, ↓reduceIte, decide_true, decide_false, Option.isNone_some, Option.isNone_none, Option.isSome_some, Option.isSome_none, beq_self_eq_true, bne_self_eq_false, Bool.and_true, Bool.true_and, Bool.and_false, Bool.false_and, not_true_eq_false, not_false_eq_true]
  · refine (f0.nil.trans ((f2.mono ?_).trans (f3.mono ?_)))
    · intro y hy _; simp [hy]
    · intro y hy _; simp at hy; simp [hy]
  · intro y hy
    rcases hin y hy with hh | hh
    · exact .inl hh
    · right; omega
end
end Go.Proofs.Yteekaakkaogpeaa
