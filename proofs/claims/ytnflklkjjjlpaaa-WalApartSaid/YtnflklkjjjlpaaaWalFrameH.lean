/-
  WalFrameH: lemmas on what Go functions of this seat come to (for whatever arguments, as each says). No condition but those that stand in each lemma.
-/
import Derived.Test.YtnflklkjjjlpaaaWalFrameCrcX
import Derived.Test.YtnflklkjjjlpaaaWalF0
import Derived.Laws.IdiomStrings
namespace Go.Proofs.Ytnflklkjjjlpaaa
open Go Go.Ev Go.Crc
set_option maxRecDepth 100000
set_option linter.unusedVariables false
set_option linter.unusedSimpArgs false

/-- four bytes, the least one first -/
def le4 (n : Int) : List Int := [n % 256, n / 256 % 256, n / 65536 % 256, n / 16777216 % 256]

theorem w8 (n : Int) : IntKind.u8.wrap n = n % 256 := by simp [IntKind.wrap, IntKind.bits, IntKind.signed]
theorem w32 (n : Int) : IntKind.u32.wrap n = n % 4294967296 := by simp [IntKind.wrap, IntKind.bits, IntKind.signed]
theorem le4_zs {n : Int} : Zs (le4 n) := by
  intro z hz
  simp only [le4, List.mem_cons, List.not_mem_nil, or_false] at hz
  rcases hz with rfl | rfl | rfl | rfl <;> omega
theorem fdivp {n : Int} (h : 0 ≤ n) (k : Nat) : Int.fdiv n (2 ^ k) = n / (2 ^ k) := by
  have e : (2 : Int) ^ k = ((2 ^ k : Nat) : Int) := by simp
  rw [e]
  exact Int.fdiv_eq_ediv_of_nonneg _ (Int.natCast_nonneg _)
theorem le4_wr {n : Int} (h : 0 ≤ n ∧ n < 4294967296) :
    [IntKind.u8.wrap n, IntKind.u8.wrap (Int.fdiv n (2 ^ (min (Int.toNat 8) 32))), IntKind.u8.wrap (Int.fdiv n (2 ^ (min (Int.toNat 16) 32))), IntKind.u8.wrap (Int.fdiv n (2 ^ (min (Int.toNat 24) 32)))] = le4 n := by
  rw [fdivp h.1, fdivp h.1, fdivp h.1]
  have e1 : (2 : Int) ^ (min (Int.toNat 8) 32) = 256 := by decide
  have e2 : (2 : Int) ^ (min (Int.toNat 16) 32) = 65536 := by decide
  have e3 : (2 : Int) ^ (min (Int.toNat 24) 32) = 16777216 := by decide
  rw [e1, e2, e3]
  simp only [w8, le4]
theorem le4_ref {n : Int} (h : 0 ≤ n ∧ n < 4294967296) :
    [IntKind.u8.wrap (Int.tmod n 256), IntKind.u8.wrap (Int.tmod (IntKind.u32.wrap (Int.tdiv n 256)) 256), IntKind.u8.wrap (Int.tmod (IntKind.u32.wrap (Int.tdiv n 65536)) 256), IntKind.u8.wrap (IntKind.u32.wrap (Int.tdiv n 16777216))] = le4 n := by
  rw [Int.tdiv_eq_ediv_of_nonneg h.1, Int.tdiv_eq_ediv_of_nonneg h.1, Int.tdiv_eq_ediv_of_nonneg h.1, Int.tmod_eq_emod_of_nonneg h.1]
  simp only [w8, w32, le4]
  rw [Int.tmod_eq_emod_of_nonneg (by omega), Int.tmod_eq_emod_of_nonneg (by omega)]
  simp only [List.cons.injEq, and_true]
  refine ⟨by omega, by omega, by omega, by omega⟩

section
variable {w : World}

/-- a new row of bytes reads as them -/
theorem sl_new {bs : List Int} : Sl8 (w.alloc (.cells (bs.map (Value.int .u8)).toArray 5)) (some ⟨w.heap.size, 0, none⟩, bs.length, bs.length) bs := by
  have hb := Blk.new w (bs.map (Value.int .u8)) 5
  refine ⟨rfl, fun _ => ⟨w.heap.size, 0, rfl, hb.lt, fun i hi => ?_⟩⟩
  rw [hb.cell]
  simp [hi]

theorem own_new {bs : List Int} (hl : bs.length ≤ maxLen) : Own (w.alloc (.cells (bs.map (Value.int .u8)).toArray 5)) 5 1 (some ⟨w.heap.size, 0, none⟩, bs.length, bs.length) (bs.map (Value.int .u8)) :=
  ⟨by simp, Nat.le_refl _, hl, .inr ⟨w.heap.size, 0, (bs.map (Value.int .u8)).toArray, rfl, alloc_blk_new _, by simp, by simpa using List.take_of_length_le (by simp)⟩⟩

/-- a writer: what was laid -/
structure Wr (w : World) (b : Nat) (q : Option Addr × Nat × Nat) (bs : List Int) : Prop where
  blk : Blk w b [.slice q.1 q.2.1 q.2.2, .int .i64 0] 114
  own : Own w 5 1 q (bs.map (Value.int .u8))
  nb : b ∉ blkOf q

theorem new24 : callF Try.prog 43 #[] w = some (.pointer (some ⟨w.heap.size, 0, none⟩), w.alloc (.cells #[.slice none 0 0, .int .i64 0] 114)) ∧
    Wr (w.alloc (.cells #[.slice none 0 0, .int .i64 0] 114)) w.heap.size (none, 0, 0) [] :=
  ⟨g43_call (by unfold g43; rfl), ⟨Blk.new w [.slice none 0 0, .int .i64 0] 114, Own.nil _ _ _, by simp [blkOf]⟩⟩

theorem fixed25 {b : Nat} {q : Option Addr × Nat × Nat} {bs : List Int} {n : Int} (h : Wr w b q bs) (hn : 0 ≤ n ∧ n < 4294967296) (hl : bs.length ≤ 4194300) :
    ∃ q' w', callF Try.prog 44 #[.pointer (some ⟨b, 0, none⟩), .int .u32 n] w = some (.tuple #[], w') ∧ Wr w' b q' (bs ++ le4 n) ∧ Fr (b :: blkOf q) w w' ∧ (∀ y ∈ blkOf q', y ∈ blkOf q ∨ w.heap.size ≤ y) := by
  have f0 : Fr [] w (w.alloc (.cells ((le4 n).map (Value.int .u8)).toArray 5)) := Fr.alloc _
  have hs := sl_new (w := w) (bs := le4 n)
  have hb0 := h.blk.fr f0 (by simp)
  have ho0 := h.own.fr f0 (by simp)
  have c0 : w.cell? ⟨b, 0, none⟩ = some (.slice q.1 q.2.1 q.2.2) := h.blk.cell 0
  have hbl := h.blk.lt
  have hsz : (w.alloc (.cells ((le4 n).map (Value.int .u8)).toArray 5)).heap.size = w.heap.size + 1 := Array.size_push _
  have harr : (#[.int .u8 (IntKind.u8.wrap n), .int .u8 (IntKind.u8.wrap (Int.fdiv n (2 ^ (min (Int.toNat 8) 32)))), .int .u8 (IntKind.u8.wrap (Int.fdiv n (2 ^ (min (Int.toNat 16) 32)))), .int .u8 (IntKind.u8.wrap (Int.fdiv n (2 ^ (min (Int.toNat 24) 32))))] : Array Value) = ((le4 n).map (Value.int .u8)).toArray := by
    rw [← le4_wr hn]; rfl
  generalize hw1 : w.alloc (.cells ((le4 n).map (Value.int .u8)).toArray 5) = w1 at f0 hs hb0 ho0 hsz
  obtain ⟨q', w2, e2, o2, f2, hv⟩ := app8 ho0 hs (by simp [le4]; omega) #[false, false]
  have hb2 := hb0.fr f2 h.nb
  have hst : st1 w2 ⟨b, 0, none⟩ (.slice q'.1 q'.2.1 q'.2.2) = some (w2.setCell ⟨b, 0, none⟩ (.slice q'.1 q'.2.1 q'.2.2)) := hb2.st1 (by simp) rfl
  have hin : ∀ y ∈ blkOf q', y ∈ blkOf q ∨ w1.heap.size ≤ y := by
    intro y hy
    rcases hv with hv | hv
    · left; simp only [blkOf] at hy ⊢; rw [hv] at hy; exact hy
    · right; rw [hv] at hy; simp at hy; omega
  have nb' : b ∉ blkOf q' := fun hm => by rcases hin b hm with hh | hh; exact h.nb hh; omega
  have f3 : Fr [b] w2 (w2.setCell ⟨b, 0, none⟩ (.slice q'.1 q'.2.1 q'.2.2)) := Fr.setCell
  refine ⟨q', w2.setCell ⟨b, 0, none⟩ (.slice q'.1 q'.2.1 q'.2.2), g44_call ?_, ⟨hb2.set 0 _, o2.fr f3 (by intro y hy hm; simp at hm; subst hm; exact nb' hy), nb'⟩, ?_, ?_⟩
  · unfold g44
    rw [harr, hw1]
    have hll : (le4 n).length = 4 := rfl
    simp only [hll] at e2
    simp only [c0, e2, hst, Option.bind_some, asP_pointer, asB_bool, asI_int, asS_string, asSl_slice, asM_map, asTup0, asTup1, asTup2, asTup3, asTup4, asTup5, getD0, getD1, getD2, getD3, getD4, Bool.not_true, Bool.not_false, Bool.false_eq_true, Bool.true_eq_false, ↓reduceIte, decide_true, decide_false, Option.isNone_some, Option.isNone_none, Option.isSome_some, Option.isSome_none, beq_self_eq_true, bne_self_eq_false, Bool.and_true, Bool.true_and, Bool.and_false, Bool.false_and, not_true_eq_false, not_false_eq_true]
  · refine (f0.nil.trans ((f2.mono ?_).trans (f3.mono ?_)))
    · intro y hy _; simp [hy]
    · intro y hy _; simp at hy; simp [hy]
  · intro y hy
    rcases hin y hy with hh | hh
    · exact .inl hh
    · right; omega
end
end Go.Proofs.Ytnflklkjjjlpaaa

namespace Go.Proofs.Ytnflklkjjjlpaaa
open Go Go.Ev Go.Crc
set_option maxRecDepth 100000
set_option linter.unusedVariables false
set_option linter.unusedSimpArgs false
section
variable {w : World}

/-- a fresh copy by append to nil -/
theorem copy8 {u : Option Addr × Nat × Nat} {zs : List Int} (hu : Sl8 w u zs) (hl : zs.length ≤ 1073741824) (cs : Array Bool) :
    ∃ v' w', callB Try.prog .append #[31, 31] 31 cs #[.slice none 0 0, .slice u.1 u.2.1 u.2.2] w = some (.slice v'.1 v'.2.1 v'.2.2, w') ∧ Own w' 5 1 v' (zs.map (Value.int .u8)) ∧
      Fr [] w w' ∧ (∀ y ∈ blkOf v', w.heap.size ≤ y) := by
  obtain ⟨v', w', e, o, f, hv⟩ := app8 (Own.nil w 5 1) (xs := []) hu (by simpa using hl) cs
  refine ⟨v', w', e, o, f, ?_⟩
  intro y hy
  rcases hv with hv | hv
  · simp only [blkOf] at hy; rw [hv] at hy; cases hy
  · rw [hv] at hy; simp at hy; omega

theorem out27 {b : Nat} {q : Option Addr × Nat × Nat} {bs : List Int} (h : Wr w b q bs) (hl : bs.length ≤ 1073741824) :
    ∃ v' w', callF Try.prog 46 #[.pointer (some ⟨b, 0, none⟩)] w = some (.tuple #[.slice v'.1 v'.2.1 v'.2.2, .int .i64 0], w') ∧ Own w' 5 1 v' (bs.map (Value.int .u8)) ∧ Fr [] w w' ∧ (∀ y ∈ blkOf v', w.heap.size ≤ y) := by
  obtain ⟨v', w', e, o, f, hv⟩ := copy8 h.own.slI hl #[true, false]
  refine ⟨v', w', g46_call ?_, o, f, hv⟩
  have c0 : w.cell? ⟨b, 0, none⟩ = some (.slice q.1 q.2.1 q.2.2) := h.blk.cell 0
  have c1 : w.cell? ⟨b, 1, none⟩ = some (.int .i64 0) := h.blk.cell 1
  unfold g46
  simp only [addr_add, Nat.zero_add, c1, c0, e, Option.bind_some, asP_pointer, asB_bool, asI_int, asS_string, asSl_slice, asM_map, asTup0, asTup1, asTup2, asTup3, asTup4, asTup5, getD0, getD1, getD2, getD3, getD4, Bool.not_true, Bool.not_false, Bool.false_eq_true, Bool.true_eq_false, ↓reduceIte, decide_true, decide_false, Option.isNone_some, Option.isNone_none, Option.isSome_some, Option.isSome_none, beq_self_eq_true, bne_self_eq_false, Bool.and_true, Bool.true_and, Bool.and_false, Bool.false_and, not_true_eq_false, not_false_eq_true]

theorem fixed22 {n : Int} (hn : 0 ≤ n ∧ n < 4294967296) : ∃ w', callF Try.prog 33 #[.int .u32 n] w = some (.slice (some ⟨w.heap.size, 0, none⟩) 4 4, w') ∧ Own w' 5 1 (some ⟨w.heap.size, 0, none⟩, 4, 4) ((le4 n).map (Value.int .u8)) ∧ Fr [] w w' := by
  have harr : (#[.int .u8 (IntKind.u8.wrap (Int.tmod n 256)), .int .u8 (IntKind.u8.wrap (Int.tmod (IntKind.u32.wrap (Int.tdiv n 256)) 256)), .int .u8 (IntKind.u8.wrap (Int.tmod (IntKind.u32.wrap (Int.tdiv n 65536)) 256)), .int .u8 (IntKind.u8.wrap (IntKind.u32.wrap (Int.tdiv n 16777216)))] : Array Value) = ((le4 n).map (Value.int .u8)).toArray := by
    rw [← le4_ref hn]; rfl
  have ho := own_new (w := w) (bs := le4 n) (show 4 ≤ maxLen by decide)
  refine ⟨w.alloc (.cells ((le4 n).map (Value.int .u8)).toArray 5), g33_call ?_, ho, Fr.alloc _⟩
  unfold g33
  rw [harr]

/-- the frame of a payload -/
def enc (p : List Int) : List Int := le4 (p.length : Int) ++ le4 (more 0 p) ++ p

theorem enc_length (p : List Int) : (enc p).length = 8 + p.length := by simp [enc, le4]; omega
theorem enc_zs {p : List Int} (h : Zs p) : Zs (enc p) := by
  intro z hz
  simp only [enc, List.mem_append] at hz
  rcases hz with (hz | hz) | hz
  · exact le4_zs z hz
  · exact le4_zs z hz
  · exact h z hz

/-- a framer, with its table -/
structure Fm (w : World) (fb tb : Nat) : Prop where
  blk : Blk w fb [.pointer (some ⟨tb, 0, none⟩)] 84
  tbl : Tbl w tb
  ne : fb ≠ tb

theorem Fm.fr {fb tb : Nat} {S : List Nat} {w' : World} (h : Fm w fb tb) (f : Fr S w w') (h1 : fb ∉ S) (h2 : tb ∉ S) : Fm w' fb tb := ⟨h.blk.fr f h1, h.tbl.fr f h2, h.ne⟩

theorem encode13 {fb tb : Nat} {u : Option Addr × Nat × Nat} {p : List Int} (h : Fm w fb tb) (hu : Sl8 w u p) (hz : Zs p) (hd : 0 < p.length → tb ∉ blkOf u) (hl : p.length ≤ 4096) :
    ∃ v' w', callF Try.prog 35 #[.pointer (some ⟨fb, 0, none⟩), .slice u.1 u.2.1 u.2.2] w = some (.tuple #[.slice v'.1 v'.2.1 v'.2.2, .int .i64 0], w') ∧
      Own w' 5 1 v' ((enc p).map (Value.int .u8)) ∧ Fm w' fb tb ∧ Fr [tb] w w' ∧ (∀ y ∈ blkOf v', w.heap.size ≤ y) := by
  have hpl := hu.1
  have hfl := h.blk.lt
  have htl := h.tbl.lt
  obtain ⟨e1, r1⟩ := new24 (w := w)
  have f1 : Fr [] w (w.alloc (.cells #[.slice none 0 0, .int .i64 0] 114)) := Fr.alloc _
  have hsz : (w.alloc (.cells #[.slice none 0 0, .int .i64 0] 114)).heap.size = w.heap.size + 1 := Array.size_push _
  generalize w.alloc (.cells #[.slice none 0 0, .int .i64 0] 114) = w1 at e1 r1 f1 hsz
  obtain ⟨q2, w2, e2, r2, f2, hv2⟩ := fixed25 r1 (n := (p.length : Int)) (by omega) (by simp)
  have F2 : Fr [tb] w w2 := (f1.nil.trans f2).mono (by intro y hy hlt; simp [blkOf] at hy; omega)
  have hvq2 : ∀ y ∈ blkOf q2, w.heap.size < y := by
    intro y hy
    rcases hv2 y hy with hh | hh
    · simp [blkOf] at hh
    · omega
  have keep : ∀ {x : World}, Fr [tb] w x → Sl8 x u p := fun F => hu.fr3 F (by intro h0 y hy hm; simp at hm; subst hm; exact hd (by rw [hpl]; exact h0) hy)
  have m2 : Fm w2 fb tb := ⟨h.blk.fr F2 (by simpa using h.ne), (h.tbl.fr f1 (by simp)).fr f2 (by simp [blkOf]; omega), h.ne⟩
  obtain ⟨w3, e3, t3, f3⟩ := sum13 m2.tbl (keep F2) hz hd (by omega)
  have F3 := F2.trans f3
  have hq2l : ∀ y ∈ blkOf q2, y < w2.heap.size := r2.own.lt
  have r3 : Wr w3 w.heap.size q2 (le4 (p.length : Int)) := ⟨r2.blk.fr f3 (by simp; omega), r2.own.fr f3 (by intro y hy hm; simp at hm; have := hvq2 y hy; omega), r2.nb⟩
  obtain ⟨q4, w4, e4, r4, f4, hv4⟩ := fixed25 r3 (more_range 0 p) (by simp [le4])
  have F4 : Fr [tb] w w4 := (F3.mono (T := tb :: w.heap.size :: blkOf q2) (by intro y hy _; simp at hy; simp [hy])).trans (f4.mono (by intro y hy _; simp at hy; rcases hy with hy | hy <;> simp [hy])) |>.mono (by
    intro y hy hlt
    simp at hy
    rcases hy with hy | hy | hy
    · simp [hy]
    · omega
    · have := hvq2 y hy; omega)
  have hvq4 : ∀ y ∈ blkOf q4, w.heap.size < y := by
    intro y hy
    rcases hv4 y hy with hh | hh
    · exact hvq2 y hh
    · have := F3.size; have := r3.blk.lt; omega
  have t4 : TblD w4 tb := t3.fr f4 (by simp; refine ⟨by omega, fun hm => ?_⟩; have := hvq2 _ hm; omega)
  obtain ⟨v5, w5, e5, o5, f5, hv5⟩ := out27 r4 (by simp [le4])
  have F5 := F4.trans f5.nil
  obtain ⟨v6, w6, e6, o6, f6, hv6⟩ := app8 o5 (keep F5) (by simp [le4]; omega) #[false, false]
  have hw5 : w.heap.size < w4.heap.size := r4.blk.lt
  have hv6' : ∀ y ∈ blkOf v6, w.heap.size ≤ y := by
    intro y hy
    rcases hv6 with hv | hv
    · have : y ∈ blkOf v5 := by simp only [blkOf] at hy ⊢; rw [hv] at hy; exact hy
      have := hv5 y this; omega
    · rw [hv] at hy; simp at hy; have := f5.size; omega
  have F6 : Fr [tb] w w6 := (F5.mono (T := tb :: blkOf v5) (by intro y hy _; simp at hy; simp [hy])).trans (f6.mono (by intro y hy _; simp [hy])) |>.mono (by
    intro y hy hlt
    simp at hy
    rcases hy with hy | hy
    · simp [hy]
    · have := hv5 y hy; omega)
  have hnt : tb ∉ blkOf v5 := fun hm => by have := hv5 _ hm; omega
  have t6 : TblD w6 tb := (t4.fr f5 (by simp)).fr f6 hnt
  refine ⟨v6, w6, g35_call ?_, o6, ⟨h.blk.fr F6 (by simpa using h.ne), .inr t6, h.ne⟩, F6, hv6'⟩
  have hc : ¬ (u.2.1 : Int) > 4096 := by omega
  have hw : IntKind.u32.wrap (u.2.1 : Int) = (p.length : Int) := by rw [w32]; omega
  have cf : w2.cell? ⟨fb, 0, none⟩ = some (.pointer (some ⟨tb, 0, none⟩)) := m2.blk.cell 0
  unfold g35
  simp only [hc, hw, e1, e2, cf, e3, e4, e5, e6, Option.bind_some, asP_pointer, asB_bool, asI_int, asS_string, asSl_slice, asM_map, asTup0, asTup1, asTup2, asTup3, asTup4, asTup5, getD0, getD1, getD2, getD3, getD4, Bool.not_true, Bool.not_false, Bool.false_eq_true, Bool.true_eq_false, ↓reduceIte, decide_true, decide_false, Option.isNone_some, Option.isNone_none, Option.isSome_some, Option.isSome_none, beq_self_eq_true, bne_self_eq_false, Bool.and_true, Bool.true_and, Bool.and_false, Bool.false_and, not_true_eq_false, not_false_eq_true]
end
end Go.Proofs.Ytnflklkjjjlpaaa

namespace Go.Proofs.Ytnflklkjjjlpaaa
open Go Go.Ev Go.Crc
set_option maxRecDepth 100000
set_option linter.unusedVariables false
set_option linter.unusedSimpArgs false

theorem or_add {A B y k : Nat} (hA : A < 2 ^ k) (hB : B = y * 2 ^ k) (h : A + B < 4294967296) :
    IntKind.u32.wrap (((BitVec.ofInt 32 (A : Int) ||| BitVec.ofInt 32 (B : Int)).toNat : Nat) : Int) = ((A + B : Nat) : Int) := by
  rw [Crc.wrap32, BitVec.toNat_or, BitVec.ofInt_natCast, BitVec.ofInt_natCast, BitVec.toNat_ofNat, BitVec.toNat_ofNat, Nat.mod_eq_of_lt (by omega), Nat.mod_eq_of_lt (by omega)]
  have e : A ||| B = A + B := by
    have := Nat.shiftLeft_add_eq_or_of_lt hA y
    rw [Nat.shiftLeft_eq] at this
    rw [hB, Nat.or_comm, ← this, Nat.add_comm]
  rw [e]

/-- four bytes as a number -/
def un4 (a b c d : Int) : Int := a + b * 256 + c * 65536 + d * 16777216

theorem un4_or {a b c d : Int} (ha : 0 ≤ a ∧ a < 256) (hb : 0 ≤ b ∧ b < 256) (hc : 0 ≤ c ∧ c < 256) (hd : 0 ≤ d ∧ d < 256) :
    IntKind.u32.wrap ((BitVec.ofInt 32 (IntKind.u32.wrap ((BitVec.ofInt 32 (IntKind.u32.wrap ((BitVec.ofInt 32 (IntKind.u32.wrap a) ||| BitVec.ofInt 32 (IntKind.u32.wrap ((IntKind.u32.wrap b) * 2 ^ (min (Int.toNat 8) 32)))).toNat : Nat)) ||| BitVec.ofInt 32 (IntKind.u32.wrap ((IntKind.u32.wrap c) * 2 ^ (min (Int.toNat 16) 32)))).toNat : Nat)) ||| BitVec.ofInt 32 (IntKind.u32.wrap ((IntKind.u32.wrap d) * 2 ^ (min (Int.toNat 24) 32)))).toNat : Nat) = un4 a b c d := by
  obtain ⟨a, rfl⟩ := Int.eq_ofNat_of_zero_le ha.1
  obtain ⟨b, rfl⟩ := Int.eq_ofNat_of_zero_le hb.1
  obtain ⟨c, rfl⟩ := Int.eq_ofNat_of_zero_le hc.1
  obtain ⟨d, rfl⟩ := Int.eq_ofNat_of_zero_le hd.1
  have e1 : (2 : Int) ^ (min (Int.toNat 8) 32) = 256 := by decide
  have e2 : (2 : Int) ^ (min (Int.toNat 16) 32) = 65536 := by decide
  have e3 : (2 : Int) ^ (min (Int.toNat 24) 32) = 16777216 := by decide
  have w1 : ∀ n : Nat, n < 4294967296 → IntKind.u32.wrap (n : Int) = (n : Int) := fun n h => by rw [w32]; omega
  have x1 : IntKind.u32.wrap ((IntKind.u32.wrap (b : Int)) * 256) = ((b * 256 : Nat) : Int) := by rw [w1 b (by omega), w32]; omega
  have x2 : IntKind.u32.wrap ((IntKind.u32.wrap (c : Int)) * 65536) = ((c * 65536 : Nat) : Int) := by rw [w1 c (by omega), w32]; omega
  have x3 : IntKind.u32.wrap ((IntKind.u32.wrap (d : Int)) * 16777216) = ((d * 16777216 : Nat) : Int) := by rw [w1 d (by omega), w32]; omega
  rw [e1, e2, e3, x1, x2, x3, w1 a (by omega), or_add (y := b) (k := 8) (by omega) (by omega) (by omega), or_add (y := c) (k := 16) (by omega) (by omega) (by omega), or_add (y := d) (k := 24) (by omega) (by omega) (by omega)]
  unfold un4; omega

section
variable {w : World}

/-- a reader of a text -/
structure Rdr (w : World) (b : Nat) (q : Option Addr × Nat × Nat) (text : List Int) (at_ e : Int) : Prop where
  blk : Blk w b [.slice q.1 q.2.1 q.2.2, .int .i64 at_, .int .i64 e] 116
  rd : Sl8 w q text
  nb : b ∉ blkOf q
  cap : q.2.1 ≤ q.2.2

theorem Rdr.drew {b : Nat} {q : Option Addr × Nat × Nat} {text : List Int} {a e : Int} (h : Rdr w b q text a e) : Rdr w.drew b q text a e := ⟨h.blk, h.rd, h.nb, h.cap⟩

theorem newR29 {u : Option Addr × Nat × Nat} {zs : List Int} (hu : Sl8 w u zs) (hl : zs.length ≤ 1073741824) :
    ∃ b q w', callF Try.prog 48 #[.slice u.1 u.2.1 u.2.2] w = some (.pointer (some ⟨b, 0, none⟩), w') ∧ Rdr w' b q zs 0 0 ∧ Fr [] w w' ∧ w.heap.size ≤ b := by
  obtain ⟨v, w1, e1, o1, f1, hv⟩ := copy8 hu hl #[true, false]
  have hb := Blk.new w1 [.slice v.1 v.2.1 v.2.2, .int .i64 0, .int .i64 0] 116
  have f2 : Fr [] w1 (w1.alloc (.cells #[.slice v.1 v.2.1 v.2.2, .int .i64 0, .int .i64 0] 116)) := Fr.alloc _
  refine ⟨w1.heap.size, v, w1.alloc (.cells #[.slice v.1 v.2.1 v.2.2, .int .i64 0, .int .i64 0] 116), g48_call ?_, ⟨hb, (o1.fr f2 (by simp)).slI, fun hm => ?_, o1.le⟩, f1.trans f2, f1.size⟩
  · unfold g48
    simp only [e1, Option.bind_some, asP_pointer, asB_bool, asI_int, asS_string, asSl_slice, asM_map, asTup0, asTup1, asTup2, asTup3, asTup4, asTup5, getD0, getD1, getD2, getD3, getD4, Bool.not_true, Bool.not_false, Bool.false_eq_true, Bool.true_eq_false, ↓reduceIte, decide_true, decide_false, Option.isNone_some, Option.isNone_none, Option.isSome_some, Option.isSome_none, beq_self_eq_true, bne_self_eq_false, Bool.and_true, Bool.true_and, Bool.and_false, Bool.false_and, not_true_eq_false, not_false_eq_true]
  · have := o1.lt _ hm; omega

theorem fixed30_ok {b : Nat} {q : Option Addr × Nat × Nat} {text : List Int} {k : Nat} (h : Rdr w b q text (k : Int) 0) (hz : Zs text) (hk : k + 4 ≤ text.length) (hl : text.length ≤ 1073741824) :
    ∃ w', callF Try.prog 49 #[.pointer (some ⟨b, 0, none⟩)] w = some (.int .u32 (un4 text[k] text[k+1] text[k+2] text[k+3]), w') ∧ Rdr w' b q text ((k + 4 : Nat) : Int) 0 ∧ Fr [b] w w' := by
  have hql := h.rd.1
  have d1 := h.drew
  have d2 := d1.drew
  have c2 : w.cell? ⟨b, 2, none⟩ = some (.int .i64 0) := h.blk.cell 2
  have c0 : w.drew.cell? ⟨b, 0, none⟩ = some (.slice q.1 q.2.1 q.2.2) := d1.blk.cell 0
  have c1 : w.drew.cell? ⟨b, 1, none⟩ = some (.int .i64 (k : Int)) := d1.blk.cell 1
  have e0 : w.drew.drew.cell? ⟨b, 0, none⟩ = some (.slice q.1 q.2.1 q.2.2) := d2.blk.cell 0
  have e1 : w.drew.drew.cell? ⟨b, 1, none⟩ = some (.int .i64 (k : Int)) := d2.blk.cell 1
  have hw1 : IntKind.i64.wrap ((q.2.1 : Int) - (k : Int)) = (q.2.1 : Int) - (k : Int) := wrap_i64 (by omega) (by omega)
  have hn4 : ¬ (q.2.1 : Int) - (k : Int) < 4 := by omega
  have hw2 : IntKind.i64.wrap ((k : Int) + 4) = ((k + 4 : Nat) : Int) := by rw [wrap_i64 (by omega) (by omega)]; omega
  obtain ⟨qs, es, us, bs⟩ := slc_lo h.rd (j := k) (by omega) h.cap
  have hst : st1 w.drew.drew ⟨b, 1, none⟩ (.int .i64 ((k + 4 : Nat) : Int)) = some (w.drew.drew.setCell ⟨b, 1, none⟩ (.int .i64 ((k + 4 : Nat) : Int))) := d2.blk.st1 (by simp) rfl
  have f3 : Fr [b] w.drew.drew (w.drew.drew.setCell ⟨b, 1, none⟩ (.int .i64 ((k + 4 : Nat) : Int))) := Fr.setCell
  have hb3 := d2.blk.set 1 (.int .i64 ((k + 4 : Nat) : Int))
  have us3 : Sl8 (w.drew.drew.setCell ⟨b, 1, none⟩ (.int .i64 ((k + 4 : Nat) : Int))) qs (text.drop k) := SlI.fr2 (w := w.drew.drew) us f3 (by intro y hy hm; simp at hm; subst hm; exact h.nb (bs _ hy))
  have rd3 : Sl8 (w.drew.drew.setCell ⟨b, 1, none⟩ (.int .i64 ((k + 4 : Nat) : Int))) q text := SlI.fr2 (w := w.drew.drew) h.rd f3 (by intro y hy hm; simp at hm; subst hm; exact h.nb hy)
  generalize hw3 : w.drew.drew.setCell ⟨b, 1, none⟩ (.int .i64 ((k + 4 : Nat) : Int)) = w3 at hst f3 hb3 us3 rd3
  have hlen : (text.drop k).length = text.length - k := List.length_drop
  have get : ∀ j, (hj : k + j < text.length) → ∃ a, idxA qs.1 qs.2.1 1 (j : Int) = some a ∧ w3.drew.cell? a = some (.int .u8 text[k + j]) := by
    intro j hj
    obtain ⟨a, g1, g2⟩ := us3.get (i := j) (by omega)
    refine ⟨a, g1, ?_⟩
    have g2' : w3.drew.cell? a = some (.int .u8 (text.drop k)[j]) := g2
    rw [g2']; simp
  obtain ⟨a0, i0, r0⟩ := get 0 (by omega)
  obtain ⟨a1, i1, r1⟩ := get 1 (by omega)
  obtain ⟨a2, i2, r2⟩ := get 2 (by omega)
  obtain ⟨a3, i3, r3⟩ := get 3 (by omega)
  simp only [Nat.add_zero] at r0
  have hu := un4_or (hz _ (List.getElem_mem (show k < text.length by omega))) (hz _ (List.getElem_mem (show k + 1 < text.length by omega))) (hz _ (List.getElem_mem (show k + 2 < text.length by omega))) (hz _ (List.getElem_mem (show k + 3 < text.length by omega)))
  refine ⟨w3.drew, g49_call ?_, ⟨hb3, rd3, h.nb, h.cap⟩, (((Fr.drew _ _).trans (Fr.drew _ _)).trans f3).trans (Fr.drew _ _)⟩
  have j0 : idxA qs.1 qs.2.1 1 0 = some a0 := i0
  have j1 : idxA qs.1 qs.2.1 1 1 = some a1 := i1
  have j2 : idxA qs.1 qs.2.1 1 2 = some a2 := i2
  have j3 : idxA qs.1 qs.2.1 1 3 = some a3 := i3
  unfold g49
  simp only [addr_add, Nat.zero_add, c2, c0, c1, hw1, hn4, e0, e1, es, hw2, hst, j0, r0, j1, r1, j2, r2, j3, r3, Option.bind_some, asP_pointer, asB_bool, asI_int, asS_string, asSl_slice, asM_map, asTup0, asTup1, asTup2, asTup3, asTup4, asTup5, getD0, getD1, getD2, getD3, getD4, Bool.not_true, Bool.not_false, Bool.false_eq_true, Bool.true_eq_false, ↓reduceIte, decide_true, decide_false, Option.isNone_some, Option.isNone_none, Option.isSome_some, Option.isSome_none, beq_self_eq_true, bne_self_eq_false, Bool.and_true, Bool.true_and, Bool.and_false, Bool.false_and, not_true_eq_false, not_false_eq_true]
  rw [hu]

theorem fixed30_end {b : Nat} {q : Option Addr × Nat × Nat} {text : List Int} {k : Nat} (h : Rdr w b q text (k : Int) 0) (hkl : k ≤ text.length) (hk : text.length < k + 4) (hl : text.length ≤ 1073741824) :
    ∃ w', callF Try.prog 49 #[.pointer (some ⟨b, 0, none⟩)] w = some (.int .u32 0, w') ∧ Rdr w' b q text (k : Int) 6 ∧ Fr [b] w w' := by
  have hql := h.rd.1
  have d1 := h.drew
  have c2 : w.cell? ⟨b, 2, none⟩ = some (.int .i64 0) := h.blk.cell 2
  have c0 : w.drew.cell? ⟨b, 0, none⟩ = some (.slice q.1 q.2.1 q.2.2) := d1.blk.cell 0
  have c1 : w.drew.cell? ⟨b, 1, none⟩ = some (.int .i64 (k : Int)) := d1.blk.cell 1
  have c3 : w.drew.cell? ⟨b, 2, none⟩ = some (.int .i64 0) := d1.blk.cell 2
  have hw1 : IntKind.i64.wrap ((q.2.1 : Int) - (k : Int)) = (q.2.1 : Int) - (k : Int) := wrap_i64 (by omega) (by omega)
  have hn4 : (q.2.1 : Int) - (k : Int) < 4 := by omega
  have hst : st1 w.drew ⟨b, 2, none⟩ (.int .i64 6) = some (w.drew.setCell ⟨b, 2, none⟩ (.int .i64 6)) := d1.blk.st1 (by simp) rfl
  have f3 : Fr [b] w.drew (w.drew.setCell ⟨b, 2, none⟩ (.int .i64 6)) := Fr.setCell
  have e34 : callF Try.prog 53 #[.pointer (some ⟨b, 0, none⟩), .int .i64 6] w.drew = some (.tuple #[], w.drew.setCell ⟨b, 2, none⟩ (.int .i64 6)) := by
    refine g53_call ?_
    unfold g53
    simp only [addr_add, Nat.zero_add, c3, hst, Option.bind_some, asP_pointer, asB_bool, asI_int, asS_string, asSl_slice, asM_map, asTup0, asTup1, asTup2, asTup3, asTup4, asTup5, getD0, getD1, getD2, getD3, getD4, Bool.not_true, Bool.not_false, Bool.false_eq_true, Bool.true_eq_false, ↓reduceIte, decide_true, decide_false, Option.isNone_some, Option.isNone_none, Option.isSome_some, Option.isSome_none, beq_self_eq_true, bne_self_eq_false, Bool.and_true, Bool.true_and, Bool.and_false, Bool.false_and, not_true_eq_false, not_false_eq_true]
  refine ⟨w.drew.setCell ⟨b, 2, none⟩ (.int .i64 6), g49_call ?_, ⟨d1.blk.set 2 _, SlI.fr2 (w := w.drew) h.rd f3 (by intro y hy hm; simp at hm; subst hm; exact h.nb hy), h.nb, h.cap⟩, (Fr.drew _ _).trans f3⟩
  unfold g49
  simp only [addr_add, Nat.zero_add, c2, c0, c1, hw1, hn4, e34, Option.bind_some, asP_pointer, asB_bool, asI_int, asS_string, asSl_slice, asM_map, asTup0, asTup1, asTup2, asTup3, asTup4, asTup5, getD0, getD1, getD2, getD3, getD4, Bool.not_true, Bool.not_false, Bool.false_eq_true, Bool.true_eq_false, ↓reduceIte, decide_true, decide_false, Option.isNone_some, Option.isNone_none, Option.isSome_some, Option.isSome_none, beq_self_eq_true, bne_self_eq_false, Bool.and_true, Bool.true_and, Bool.and_false, Bool.false_and, not_true_eq_false, not_false_eq_true]

theorem fixed30_bad {b : Nat} {q : Option Addr × Nat × Nat} {text : List Int} {k e : Int} (h : Rdr w b q text k e) (he : e ≠ 0) :
    callF Try.prog 49 #[.pointer (some ⟨b, 0, none⟩)] w = some (.int .u32 0, w) := by
  have c2 : w.cell? ⟨b, 2, none⟩ = some (.int .i64 e) := h.blk.cell 2
  have hne : (e != 0) = true := by simpa using he
  refine g49_call ?_
  unfold g49
  simp only [addr_add, Nat.zero_add, c2, hne, Option.bind_some, asP_pointer, asB_bool, asI_int, asS_string, asSl_slice, asM_map, asTup0, asTup1, asTup2, asTup3, asTup4, asTup5, getD0, getD1, getD2, getD3, getD4, Bool.not_true, Bool.not_false, Bool.false_eq_true, Bool.true_eq_false, ↓reduceIte, decide_true, decide_false, Option.isNone_some, Option.isNone_none, Option.isSome_some, Option.isSome_none, beq_self_eq_true, bne_self_eq_false, Bool.and_true, Bool.true_and, Bool.and_false, Bool.false_and, not_true_eq_false, not_false_eq_true]

theorem state31 {b : Nat} {q : Option Addr × Nat × Nat} {text : List Int} {k e : Int} (h : Rdr w b q text k e) :
    ∃ n m, callF Try.prog 50 #[.pointer (some ⟨b, 0, none⟩)] w = some (.tuple #[.int .i64 n, .int .i64 m, .int .i64 e], w.drew) := by
  have d1 := h.drew
  have c0 : w.drew.cell? ⟨b, 0, none⟩ = some (.slice q.1 q.2.1 q.2.2) := d1.blk.cell 0
  have c1 : w.drew.cell? ⟨b, 1, none⟩ = some (.int .i64 k) := d1.blk.cell 1
  have c2 : w.drew.cell? ⟨b, 2, none⟩ = some (.int .i64 e) := d1.blk.cell 2
  refine ⟨k, IntKind.i64.wrap ((q.2.1 : Int) - k), g50_call ?_⟩
  unfold g50
  simp only [addr_add, Nat.zero_add, c0, c1, c2, Option.bind_some, asP_pointer, asB_bool, asI_int, asS_string, asSl_slice, asM_map, asTup0, asTup1, asTup2, asTup3, asTup4, asTup5, getD0, getD1, getD2, getD3, getD4, Bool.not_true, Bool.not_false, Bool.false_eq_true, Bool.true_eq_false, ↓reduceIte, decide_true, decide_false, Option.isNone_some, Option.isNone_none, Option.isSome_some, Option.isSome_none, beq_self_eq_true, bne_self_eq_false, Bool.and_true, Bool.true_and, Bool.and_false, Bool.false_and, not_true_eq_false, not_false_eq_true]
end

/-- what stands at the front of these bytes: (payload, how many bytes, errno) -/
def dec (bs : List Int) : List Int × Nat × Int :=
  if bs.length < 8 then ([], 0, 6)
  else
    let n := un4 (bs.getD 0 0) (bs.getD 1 0) (bs.getD 2 0) (bs.getD 3 0)
    let s := un4 (bs.getD 4 0) (bs.getD 5 0) (bs.getD 6 0) (bs.getD 7 0)
    if n > 4096 then ([], 0, 2)
    else if (bs.length : Int) - 8 < n then ([], 0, 6)
    else if more 0 ((bs.drop 8).take n.toNat) = s then ((bs.drop 8).take n.toNat, 8 + n.toNat, 0) else ([], 0, 8)
end Go.Proofs.Ytnflklkjjjlpaaa

namespace Go.Proofs.Ytnflklkjjjlpaaa
open Go Go.Ev Go.Crc
set_option maxRecDepth 100000
set_option linter.unusedVariables false
set_option linter.unusedSimpArgs false
section
variable {w : World}

/-- the two numbers at the front, by a reader -/
theorem head_short {u : Option Addr × Nat × Nat} {zs : List Int} (hu : Sl8 w u zs) (hz : Zs zs) (hl : zs.length < 8) :
    ∃ b n s w1 w2 w3, callF Try.prog 48 #[.slice u.1 u.2.1 u.2.2] w = some (.pointer (some ⟨b, 0, none⟩), w1) ∧ callF Try.prog 49 #[.pointer (some ⟨b, 0, none⟩)] w1 = some (.int .u32 n, w2) ∧
      callF Try.prog 49 #[.pointer (some ⟨b, 0, none⟩)] w2 = some (.int .u32 s, w3) ∧ (∃ n m, callF Try.prog 50 #[.pointer (some ⟨b, 0, none⟩)] w3 = some (.tuple #[.int .i64 n, .int .i64 m, .int .i64 6], w3.drew)) ∧ Fr [] w w3.drew := by
  obtain ⟨b, q, w1, e1, r1, f1, hb⟩ := newR29 hu (by omega)
  have fin : ∀ x : World, Fr [b] w1 x → Fr [] w x := fun x f => (f1.nil.trans f).mono (by intro y hy hlt; simp at hy; omega)
  by_cases h4 : zs.length < 4
  · obtain ⟨w2, e2, r2, f2⟩ := fixed30_end (k := 0) r1 (by omega) (by omega) (by omega)
    have e3 := fixed30_bad r2 (by decide)
    exact ⟨b, 0, 0, w1, w2, w2, e1, e2, e3, state31 r2, (fin _ f2).trans (Fr.drew _ _)⟩
  · obtain ⟨w2, e2, r2, f2⟩ := fixed30_ok (k := 0) r1 hz (by omega) (by omega)
    obtain ⟨w3, e3, r3, f3⟩ := fixed30_end (k := 4) r2 (by omega) (by omega) (by omega)
    exact ⟨b, _, 0, w1, w2, w3, e1, e2, e3, state31 r3, (fin _ (f2.trans f3)).trans (Fr.drew _ _)⟩

theorem head_long {u : Option Addr × Nat × Nat} {zs : List Int} (hu : Sl8 w u zs) (hz : Zs zs) (hl : zs.length = 8) :
    ∃ b w1 w2 w3, callF Try.prog 48 #[.slice u.1 u.2.1 u.2.2] w = some (.pointer (some ⟨b, 0, none⟩), w1) ∧
      callF Try.prog 49 #[.pointer (some ⟨b, 0, none⟩)] w1 = some (.int .u32 (un4 (zs.getD 0 0) (zs.getD 1 0) (zs.getD 2 0) (zs.getD 3 0)), w2) ∧
      callF Try.prog 49 #[.pointer (some ⟨b, 0, none⟩)] w2 = some (.int .u32 (un4 (zs.getD 4 0) (zs.getD 5 0) (zs.getD 6 0) (zs.getD 7 0)), w3) ∧
      (∃ n m, callF Try.prog 50 #[.pointer (some ⟨b, 0, none⟩)] w3 = some (.tuple #[.int .i64 n, .int .i64 m, .int .i64 0], w3.drew)) ∧ Fr [] w w3.drew := by
  obtain ⟨b, q, w1, e1, r1, f1, hb⟩ := newR29 hu (by omega)
  have fin : ∀ x : World, Fr [b] w1 x → Fr [] w x := fun x f => (f1.nil.trans f).mono (by intro y hy hlt; simp at hy; omega)
  obtain ⟨w2, e2, r2, f2⟩ := fixed30_ok (k := 0) r1 hz (by omega) (by omega)
  obtain ⟨w3, e3, r3, f3⟩ := fixed30_ok (k := 4) r2 hz (by omega) (by omega)
  refine ⟨b, w1, w2, w3, e1, ?_, ?_, state31 r3, (fin _ (f2.trans f3)).trans (Fr.drew _ _)⟩
  · rw [getD_lt (by omega), getD_lt (by omega), getD_lt (by omega), getD_lt (by omega)]; exact e2
  · rw [getD_lt (by omega), getD_lt (by omega), getD_lt (by omega), getD_lt (by omega)]; exact e3

/-- the bytes from i up to j -/
theorem slc_mid {k : IntKind} {u : Option Addr × Nat × Nat} {zs : List Int} (h : SlI k w u zs) {i j : Nat} (hij : i ≤ j) (hj : j ≤ zs.length) (hc : u.2.1 ≤ u.2.2) :
    ∃ q, slc u.1 u.2.1 u.2.2 1 (some (i : Int)) (some (j : Int)) none = some q ∧ SlI k w q ((zs.drop i).take (j - i)) ∧ ∀ x ∈ blkOf q, x ∈ blkOf u := by
  have hl := h.1
  have hjc : j ≤ u.2.2 := by omega
  refine ⟨(if u.2.2 = i then u.1 else u.1.map (·.add (i * 1)), j - i, u.2.2 - i), ?_, ⟨by simp; omega, fun h0 => ?_⟩, fun x hx => ?_⟩
  · simp [slc, bnd, hjc, hij]
  · simp only at h0
    obtain ⟨b, off, h1, h2, h3⟩ := h.2 (by omega)
    refine ⟨b, off + i, ?_, h2, fun m hm => ?_⟩
    · simp only
      rw [if_neg (by omega), h1]
      simp [addr_add]
    · simp only [List.length_take, List.length_drop] at hm
      have e1 : off + i + m = off + (i + m) := by omega
      rw [e1, h3 (i + m) (by omega)]
      simp
  · revert hx
    simp only [blkOf]
    split
    · rename_i a ha
      intro hx
      split at ha
      · rw [ha]; exact hx
      · cases hu : u.1 with
        | none => rw [hu] at ha; cases ha
        | some c =>
          rw [hu] at ha
          simp only [Option.map_some, Option.some.injEq] at ha
          subst ha
          unfold Addr.add at hx
          split at hx <;> exact hx
    · intro hx; cases hx

theorem getD_take {bs : List Int} {k i : Nat} (h : i < k) : (bs.take k).getD i 0 = bs.getD i 0 := by simp [List.getD, h]

theorem getD_zs {bs : List Int} (hz : Zs bs) (i : Nat) : 0 ≤ bs.getD i 0 ∧ bs.getD i 0 < 256 := by
  by_cases h : i < bs.length
  · rw [getD_lt h]; exact hz _ (List.getElem_mem h)
  · have : bs.getD i 0 = 0 := by simp [List.getD, Nat.le_of_not_lt h]
    rw [this]; decide

theorem decode16 {fb tb : Nat} {u : Option Addr × Nat × Nat} {bs : List Int} (h : Fm w fb tb) (hu : Sl8 w u bs) (hz : Zs bs) (hcap : u.2.1 ≤ u.2.2) (hd : 0 < bs.length → tb ∉ blkOf u) (hl : bs.length ≤ 1073741824) :
    ∃ v' w', callF Try.prog 42 #[.pointer (some ⟨fb, 0, none⟩), .slice u.1 u.2.1 u.2.2] w = some (.tuple #[.slice v'.1 v'.2.1 v'.2.2, .int .i64 ((dec bs).2.1 : Int), .int .i64 (dec bs).2.2], w') ∧
      Own w' 5 1 v' ((dec bs).1.map (Value.int .u8)) ∧ Fm w' fb tb ∧ Fr [tb] w w' ∧ (∀ y ∈ blkOf v', w.heap.size ≤ y) := by
  have hul := hu.1
  by_cases h8 : bs.length < 8
  · have hdec : dec bs = ([], 0, 6) := by unfold dec; rw [if_pos h8]
    rw [hdec]
    obtain ⟨q, eq, uq, bq⟩ := slc_hi hu (j := bs.length) (Nat.le_refl _) hcap
    rw [List.take_length] at uq
    obtain ⟨b, n, s, w1, w2, w3, e1, e2, e3, ⟨n4, m4, e4⟩, f⟩ := head_short uq hz h8
    refine ⟨(none, 0, 0), w3.drew, g42_call ?_, Own.nil _ _ _, h.fr f (by simp) (by simp), f.nil, by simp [blkOf]⟩
    have hc : ¬ (8 : Int) < (u.2.1 : Int) := by omega
    have hm : (u.2.1 : Int) = ((bs.length : Nat) : Int) := by omega
    have h60 : ((6 : Int) != 0) = true := by decide
    unfold g42
    simp only [hc, Option.bind_some, asP_pointer, asB_bool, asI_int, asS_string, asSl_slice, asM_map, asTup0, asTup1, asTup2, asTup3, asTup4, asTup5, getD0, getD1, getD2, getD3, getD4, Bool.not_true, Bool.not_false, Bool.false_eq_true, Bool.true_eq_false, ↓reduceIte, decide_true, decide_false, Option.isNone_some, Option.isNone_none, Option.isSome_some, Option.isSome_none, beq_self_eq_true, bne_self_eq_false, Bool.and_true, Bool.true_and, Bool.and_false, Bool.false_and, not_true_eq_false, not_false_eq_true]
    rw [hm]
    simp only [eq, e1, e2, e3, e4, h60, Option.bind_some, asP_pointer, asB_bool, asI_int, asS_string, asSl_slice, asM_map, asTup0, asTup1, asTup2, asTup3, asTup4, asTup5, getD0, getD1, getD2, getD3, getD4, Bool.not_true, Bool.not_false, Bool.false_eq_true, Bool.true_eq_false, ↓reduceIte, decide_true, decide_false, Option.isNone_some, Option.isNone_none, Option.isSome_some, Option.isSome_none, beq_self_eq_true, bne_self_eq_false, Bool.and_true, Bool.true_and, Bool.and_false, Bool.false_and, not_true_eq_false, not_false_eq_true]
    rfl
  · obtain ⟨q, eq, uq, bq⟩ := slc_hi hu (j := 8) (by omega) hcap
    have zq : Zs (bs.take 8) := fun z hm => hz z (List.mem_of_mem_take hm)
    obtain ⟨b, w1, w2, w3, e1, e2, e3, ⟨n4, m4, e4⟩, f⟩ := head_long uq zq (by rw [List.length_take]; omega)
    rw [getD_take (by omega), getD_take (by omega), getD_take (by omega), getD_take (by omega)] at e2 e3
    generalize hn : un4 (bs.getD 0 0) (bs.getD 1 0) (bs.getD 2 0) (bs.getD 3 0) = n at e2
    generalize hs : un4 (bs.getD 4 0) (bs.getD 5 0) (bs.getD 6 0) (bs.getD 7 0) = s at e3
    have hn0 : 0 ≤ n ∧ n < 4294967296 := by
      have a := getD_zs hz 0; have b := getD_zs hz 1; have c := getD_zs hz 2; have d := getD_zs hz 3
      rw [← hn]; unfold un4; omega
    have hq8 : slc u.1 u.2.1 u.2.2 1 none (some (if (8 : Int) < (u.2.1 : Int) then 8 else (u.2.1 : Int))) none = some q := by
      by_cases hc : (8 : Int) < (u.2.1 : Int)
      · rw [if_pos hc]; exact eq
      · rw [if_neg hc]
        have : (u.2.1 : Int) = ((8 : Nat) : Int) := by omega
        rw [this]; exact eq
    have m3 := h.fr f (by simp) (by simp)
    by_cases hbig : n > 4096
    · have hdec : dec bs = ([], 0, 2) := by unfold dec; rw [if_neg h8]; simp only [hn]; rw [if_pos hbig]
      rw [hdec]
      refine ⟨(none, 0, 0), w3.drew, g42_call ?_, Own.nil _ _ _, m3, f.nil, by simp [blkOf]⟩
      unfold g42
      simp only [hq8, e1, e2, e3, e4, hbig, Option.bind_some, asP_pointer, asB_bool, asI_int, asS_string, asSl_slice, asM_map, asTup0, asTup1, asTup2, asTup3, asTup4, asTup5, getD0, getD1, getD2, getD3, getD4, Bool.not_true, Bool.not_false, Bool.false_eq_true, Bool.true_eq_false, ↓reduceIte, decide_true, decide_false, Option.isNone_some, Option.isNone_none, Option.isSome_some, Option.isSome_none, beq_self_eq_true, bne_self_eq_false, Bool.and_true, Bool.true_and, Bool.and_false, Bool.false_and, not_true_eq_false, not_false_eq_true]
      rfl
    · have hwn : IntKind.i64.wrap n = n := wrap_i64 (by omega) (by omega)
      have hw8 : IntKind.i64.wrap ((u.2.1 : Int) - 8) = (bs.length : Int) - 8 := by rw [wrap_i64 (by omega) (by omega)]; omega
      by_cases hend : (bs.length : Int) - 8 < n
      · have hdec : dec bs = ([], 0, 6) := by unfold dec; rw [if_neg h8]; simp only [hn]; rw [if_neg hbig, if_pos hend]
        rw [hdec]
        refine ⟨(none, 0, 0), w3.drew, g42_call ?_, Own.nil _ _ _, m3, f.nil, by simp [blkOf]⟩
        unfold g42
        simp only [hq8, e1, e2, e3, e4, hbig, hwn, hw8, hend, Option.bind_some, asP_pointer, asB_bool, asI_int, asS_string, asSl_slice, asM_map, asTup0, asTup1, asTup2, asTup3, asTup4, asTup5, getD0, getD1, getD2, getD3, getD4, Bool.not_true, Bool.not_false, Bool.false_eq_true, Bool.true_eq_false, ↓reduceIte, decide_true, decide_false, Option.isNone_some, Option.isNone_none, Option.isSome_some, Option.isSome_none, beq_self_eq_true, bne_self_eq_false, Bool.and_true, Bool.true_and, Bool.and_false, Bool.false_and, not_true_eq_false, not_false_eq_true]
        rfl
      · obtain ⟨nn, rfl⟩ := Int.eq_ofNat_of_zero_le hn0.1
        have hwe : IntKind.i64.wrap (8 + (nn : Int)) = ((8 + nn : Nat) : Int) := by rw [wrap_i64 (by omega) (by omega)]; omega
        have u3 := hu.fr3 f (by simp)
        obtain ⟨qm, em, um, bm⟩ := slc_mid u3 (i := 8) (j := 8 + nn) (by omega) (by omega) hcap
        rw [show 8 + nn - 8 = nn by omega] at um
        have zm : Zs ((bs.drop 8).take nn) := fun z hm => hz z (List.mem_of_mem_drop (List.mem_of_mem_take hm))
        have lm : ((bs.drop 8).take nn).length ≤ 1073741824 := by rw [List.length_take]; omega
        obtain ⟨v5, w5, e5, o5, f5, hv5⟩ := copy8 um lm #[true, false]
        have m5 := m3.fr f5 (by simp) (by simp)
        have hsz : w.heap.size ≤ w3.drew.heap.size := f.size
        have htl := h.tbl.lt
        have ntb : tb ∉ blkOf v5 := fun hm => by have := hv5 _ hm; omega
        obtain ⟨w6, e6, t6, f6⟩ := sum13 m5.tbl o5.slI zm (fun _ => ntb) (by omega)
        have o6 := o5.fr f6 (by intro y hy hm; simp at hm; subst hm; exact ntb hy)
        have m6 : Fm w6 fb tb := ⟨m5.blk.fr f6 (by simpa using m5.ne), .inr t6, m5.ne⟩
        have F6 : Fr [tb] w w6 := (f.trans f5).nil.trans f6
        have cf : w5.cell? ⟨fb, 0, none⟩ = some (.pointer (some ⟨tb, 0, none⟩)) := m5.blk.cell 0
        have em' : slc u.1 u.2.1 u.2.2 1 (some 8) (some ((8 + nn : Nat) : Int)) none = some qm := em
        by_cases hsum : more 0 ((bs.drop 8).take nn) = s
        · have hdec : dec bs = ((bs.drop 8).take nn, 8 + nn, 0) := by
            unfold dec; rw [if_neg h8]; simp only [hn, hs]; rw [if_neg hbig, if_neg hend, Int.toNat_natCast, if_pos hsum]
          rw [hdec]
          refine ⟨v5, w6, g42_call ?_, o6, m6, F6, fun y hy => by have := hv5 y hy; omega⟩
          have hne : (more 0 ((bs.drop 8).take nn) != s) = false := by simpa using hsum
          unfold g42
          simp only [hq8, e1, e2, e3, e4, hbig, hwn, hw8, hend, hwe, em', e5, cf, e6, hne, Option.bind_some, asP_pointer, asB_bool, asI_int, asS_string, asSl_slice, asM_map, asTup0, asTup1, asTup2, asTup3, asTup4, asTup5, getD0, getD1, getD2, getD3, getD4, Bool.not_true, Bool.not_false, Bool.false_eq_true, Bool.true_eq_false, ↓reduceIte, decide_true, decide_false, Option.isNone_some, Option.isNone_none, Option.isSome_some, Option.isSome_none, beq_self_eq_true, bne_self_eq_false, Bool.and_true, Bool.true_and, Bool.and_false, Bool.false_and, not_true_eq_false, not_false_eq_true]
        · have hdec : dec bs = ([], 0, 8) := by
            unfold dec; rw [if_neg h8]; simp only [hn, hs]; rw [if_neg hbig, if_neg hend, Int.toNat_natCast, if_neg hsum]
          rw [hdec]
          refine ⟨(none, 0, 0), w6, g42_call ?_, Own.nil _ _ _, m6, F6, by simp [blkOf]⟩
          have hne : (more 0 ((bs.drop 8).take nn) != s) = true := by simpa using hsum
          unfold g42
          simp only [hq8, e1, e2, e3, e4, hbig, hwn, hw8, hend, hwe, em', e5, cf, e6, hne, Option.bind_some, asP_pointer, asB_bool, asI_int, asS_string, asSl_slice, asM_map, asTup0, asTup1, asTup2, asTup3, asTup4, asTup5, getD0, getD1, getD2, getD3, getD4, Bool.not_true, Bool.not_false, Bool.false_eq_true, Bool.true_eq_false, ↓reduceIte, decide_true, decide_false, Option.isNone_some, Option.isNone_none, Option.isSome_some, Option.isSome_none, beq_self_eq_true, bne_self_eq_false, Bool.and_true, Bool.true_and, Bool.and_false, Bool.false_and, not_true_eq_false, not_false_eq_true]
          rfl
end
end Go.Proofs.Ytnflklkjjjlpaaa

namespace Go.Proofs.Ytnflklkjjjlpaaa
open Go Go.Ev Go.Crc
set_option maxRecDepth 100000
set_option linter.unusedVariables false
set_option linter.unusedSimpArgs false
section
variable {w : World}

theorem new10 : ∃ fb tb w', callF Try.prog 30 #[] w = some (.pointer (some ⟨fb, 0, none⟩), w') ∧ Fm w' fb tb ∧ Fr [] w w' ∧ w.heap.size ≤ tb ∧ w.heap.size ≤ fb := by
  obtain ⟨w1, e1, t1, f1⟩ := new9 (w := w)
  have hb := Blk.new w1 [.pointer (some ⟨w.heap.size, 0, none⟩)] 84
  have f2 : Fr [] w1 (w1.alloc (.cells #[.pointer (some ⟨w.heap.size, 0, none⟩)] 84)) := Fr.alloc _
  refine ⟨w1.heap.size, w.heap.size, w1.alloc (.cells #[.pointer (some ⟨w.heap.size, 0, none⟩)] 84), g30_call ?_, ⟨hb, t1.fr f2 (by simp), ?_⟩, f1.trans f2, Nat.le_refl _, f1.size⟩
  · unfold g30
    simp only [e1, Option.bind_some, asP_pointer, asB_bool, asI_int, asS_string, asSl_slice, asM_map, asTup0, asTup1, asTup2, asTup3, asTup4, asTup5, getD0, getD1, getD2, getD3, getD4, Bool.not_true, Bool.not_false, Bool.false_eq_true, Bool.true_eq_false, ↓reduceIte, decide_true, decide_false, Option.isNone_some, Option.isNone_none, Option.isSome_some, Option.isSome_none, beq_self_eq_true, bne_self_eq_false, Bool.and_true, Bool.true_and, Bool.and_false, Bool.false_and, not_true_eq_false, not_false_eq_true]
  · have := t1.lt; omega

end

end Go.Proofs.Ytnflklkjjjlpaaa
