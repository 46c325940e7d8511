/-
  FrameE: lemmas on what Go functions of this seat come to (for whatever arguments, as each says). No condition but those that stand in each lemma.
-/
import Derived.Test.YteekaakkaogpeaaFrameD
namespace Go.Proofs.Yteekaakkaogpeaa
open Go Go.Ev Go.Crc
set_option maxRecDepth 100000
set_option linter.unusedVariables false
set_option linter.unusedSimpArgs false

theorem or_add {A B y k : Nat} (hA : A < 2 ^ k) (hB : B = y * 2 ^ k) (h : A + B < 4294967296) :
    IntKind.u32.wrap (((BitVec.ofInt 32 (A : Int) ||| BitVec.ofInt 32 (B : Int)).toNat : Nat) : Int) = ((A + B : Nat) : Int) := by
  rw [Crc.wrap32, BitVec.toNat_or, BitVec.ofInt_natCast, BitVec.ofInt_natCast, BitVec.toNat_ofNat, BitVec.toNat_ofNat, Nat.mod_eq_of_lt (by omega), Nat.mod_eq_of_lt (by omega)]
  have e : A ||| B = A + B := by
    have := Nat.shiftLeft_add_eq_or_of_lt hA y
    rw [Nat.shiftLeft_eq] at this
    rw [hB, Nat.or_comm, ← this, Nat.add_comm]
  rw [e]

/-- four bytes as a number -/
def un4 (a b c d : Int) : Int := a + b * 256 + c * 65536 + d * 16777216

theorem un4_or {a b c d : Int} (ha : 0 ≤ a ∧ a < 256) (hb : 0 ≤ b ∧ b < 256) (hc : 0 ≤ c ∧ c < 256) (hd : 0 ≤ d ∧ d < 256) :
    IntKind.u32.wrap ((BitVec.ofInt 32 (IntKind.u32.wrap ((BitVec.ofInt 32 (IntKind.u32.wrap ((BitVec.ofInt 32 (IntKind.u32.wrap a) ||| BitVec.ofInt 32 (IntKind.u32.wrap ((IntKind.u32.wrap b) * 2 ^ (min (Int.toNat 8) 32)))).toNat : Nat)) ||| BitVec.ofInt 32 (IntKind.u32.wrap ((IntKind.u32.wrap c) * 2 ^ (min (Int.toNat 16) 32)))).toNat : Nat)) ||| BitVec.ofInt 32 (IntKind.u32.wrap ((IntKind.u32.wrap d) * 2 ^ (min (Int.toNat 24) 32)))).toNat : Nat) = un4 a b c d := by
  obtain ⟨a, rfl⟩ := Int.eq_ofNat_of_zero_le ha.1
  obtain ⟨b, rfl⟩ := Int.eq_ofNat_of_zero_le hb.1
  obtain ⟨c, rfl⟩ := Int.eq_ofNat_of_zero_le hc.1
  obtain ⟨d, rfl⟩ := Int.eq_ofNat_of_zero_le hd.1
  have e1 : (2 : Int) ^ (min (Int.toNat 8) 32) = 256 := by decide
  have e2 : (2 : Int) ^ (min (Int.toNat 16) 32) = 65536 := by decide
  have e3 : (2 : Int) ^ (min (Int.toNat 24) 32) = 16777216 := by decide
  have w1 : ∀ n : Nat, n < 4294967296 → IntKind.u32.wrap (n : Int) = (n : Int) := fun n h => by rw [w32]; omega
  have x1 : IntKind.u32.wrap ((IntKind.u32.wrap (b : Int)) * 256) = ((b * 256 : Nat) : Int) := by rw [w1 b (by omega), w32]; omega
  have x2 : IntKind.u32.wrap ((IntKind.u32.wrap (c : Int)) * 65536) = ((c * 65536 : Nat) : Int) := by rw [w1 c (by omega), w32]; omega
  have x3 : IntKind.u32.wrap ((IntKind.u32.wrap (d : Int)) * 16777216) = ((d * 16777216 : Nat) : Int) := by rw [w1 d (by omega), w32]; omega
  rw [e1, e2, e3, x1, x2, x3, w1 a (by omega), or_add (y := b) (k := 8) (by omega) (by omega) (by omega), or_add (y := c) (k := 16) (by omega) (by omega) (by omega), or_add (y := d) (k := 24) (by omega) (by omega) (by omega)]
  unfold un4; omega

section
variable {w : World}

/-- a reader of a text -/
structure Rdr (w : World) (b : Nat) (q : Option Addr × Nat × Nat) (text : List Int) (at_ e : Int) : Prop where
  blk : Blk w b [.slice q.1 q.2.1 q.2.2, .int .i64 at_, .int .i64 e] 88
  rd : Sl8 w q text
  nb : b ∉ blkOf q
  cap : q.2.1 ≤ q.2.2

theorem Rdr.drew {b : Nat} {q : Option Addr × Nat × Nat} {text : List Int} {a e : Int} (h : Rdr w b q text a e) : Rdr w.drew b q text a e := ⟨h.blk, h.rd, h.nb, h.cap⟩

theorem newR29 {u : Option Addr × Nat × Nat} {zs : List Int} (hu : Sl8 w u zs) (hl : zs.length ≤ 140737488355328) :
    ∃ b q w', callF Try.prog 29 #[.slice u.1 u.2.1 u.2.2] w = some (.pointer (some ⟨b, 0, none⟩), w') ∧ Rdr w' b q zs 0 0 ∧ Fr [] w w' ∧ w.heap.size ≤ b := by
  obtain ⟨v, w1, e1, o1, f1, hv⟩ := copy8 hu hl #[true, false]
  have hb := Blk.new w1 [.slice v.1 v.2.1 v.2.2, .int .i64 0, .int .i64 0] 88
  have f2 : Fr [] w1 (w1.alloc (.cells #[.slice v.1 v.2.1 v.2.2, .int .i64 0, .int .i64 0] 88)) := Fr.alloc _
  refine ⟨w1.heap.size, v, w1.alloc (.cells #[.slice v.1 v.2.1 v.2.2, .int .i64 0, .int .i64 0] 88), g29_call ?_, ⟨hb, (o1.fr f2 (by simp)).slI, fun hm => ?_, o1.le⟩, f1.trans f2, f1.size⟩
  · unfold g29
    simp only [e1, Option.bind_some, asP_pointer, asB_bool, asI_int, asS_string, asSl_slice, asM_map, asTup0, asTup1, asTup2, asTup3, asTup4, asTup5, getD0, getD1, getD2, getD3, getD4, Bool.not_true, Bool.not_false, Bool.false_eq_true, Bool.true_eq_false, ↓reduceIte, decide_true, decide_false, Option.isNone_some, Option.isNone_none, Option.isSome_some, Option.isSome_none, beq_self_eq_true, bne_self_eq_false, Bool.and_true, Bool.true_and, Bool.and_false, Bool.false_and, not_true_eq_false, not_false_eq_true]
  · have := o1.lt _ hm; omega

theorem fixed30_ok {b : Nat} {q : Option Addr × Nat × Nat} {text : List Int} {k : Nat} (h : Rdr w b q text (k : Int) 0) (hz : Zs text) (hk : k + 4 ≤ text.length) (hl : text.length ≤ 140737488355328) :
    ∃ w', callF Try.prog 30 #[.pointer (some ⟨b, 0, none⟩)] w = some (.int .u32 (un4 text[k] text[k+1] text[k+2] text[k+3]), w') ∧ Rdr w' b q text ((k + 4 : Nat) : Int) 0 ∧ Fr [b] w w' := by
  have hql := h.rd.1
  have d1 := h.drew
  have d2 := d1.drew
  have c2 : w.cell? ⟨b, 2, none⟩ = some (.int .i64 0) := h.blk.cell 2
  have c0 : w.drew.cell? ⟨b, 0, none⟩ = some (.slice q.1 q.2.1 q.2.2) := d1.blk.cell 0
  have c1 : w.drew.cell? ⟨b, 1, none⟩ = some (.int .i64 (k : Int)) := d1.blk.cell 1
  have e0 : w.drew.drew.cell? ⟨b, 0, none⟩ = some (.slice q.1 q.2.1 q.2.2) := d2.blk.cell 0
  have e1 : w.drew.drew.cell? ⟨b, 1, none⟩ = some (.int .i64 (k : Int)) := d2.blk.cell 1
  have hw1 : IntKind.i64.wrap ((q.2.1 : Int) - (k : Int)) = (q.2.1 : Int) - (k : Int) := wrap_i64 (by omega) (by omega)
  have hn4 : ¬ (q.2.1 : Int) - (k : Int) < 4 := by omega
  have hw2 : IntKind.i64.wrap ((k : Int) + 4) = ((k + 4 : Nat) : Int) := by rw [wrap_i64 (by omega) (by omega)]; omega
  obtain ⟨qs, es, us, bs⟩ := slc_lo h.rd (j := k) (by omega) h.cap
  have hst : st1 w.drew.drew ⟨b, 1, none⟩ (.int .i64 ((k + 4 : Nat) : Int)) = some (w.drew.drew.setCell ⟨b, 1, none⟩ (.int .i64 ((k + 4 : Nat) : Int))) := d2.blk.st1 (by simp) rfl
  have f3 : Fr [b] w.drew.drew (w.drew.drew.setCell ⟨b, 1, none⟩ (.int .i64 ((k + 4 : Nat) : Int))) := Fr.setCell
  have hb3 := d2.blk.set 1 (.int .i64 ((k + 4 : Nat) : Int))
  have us3 : Sl8 (w.drew.drew.setCell ⟨b, 1, none⟩ (.int .i64 ((k + 4 : Nat) : Int))) qs (text.drop k) := SlI.fr2 (w := w.drew.drew) us f3 (by intro y hy hm; simp at hm; subst hm; exact h.nb (bs _ hy))
  have rd3 : Sl8 (w.drew.drew.setCell ⟨b, 1, none⟩ (.int .i64 ((k + 4 : Nat) : Int))) q text := SlI.fr2 (w := w.drew.drew) h.rd f3 (by intro y hy hm; simp at hm; subst hm; exact h.nb hy)
  generalize hw3 : w.drew.drew.setCell ⟨b, 1, none⟩ (.int .i64 ((k + 4 : Nat) : Int)) = w3 at hst f3 hb3 us3 rd3
  have hlen : (text.drop k).length = text.length - k := List.length_drop
  have get : ∀ j, (hj : k + j < text.length) → ∃ a, idxA qs.1 qs.2.1 1 (j : Int) = some a ∧ w3.drew.cell? a = some (.int .u8 text[k + j]) := by
    intro j hj
    obtain ⟨a, g1, g2⟩ := us3.get (i := j) (by omega)
    refine ⟨a, g1, ?_⟩
    have g2' : w3.drew.cell? a = some (.int .u8 (text.drop k)[j]) := g2
    rw [g2']; simp
  obtain ⟨a0, i0, r0⟩ := get 0 (by omega)
  obtain ⟨a1, i1, r1⟩ := get 1 (by omega)
  obtain ⟨a2, i2, r2⟩ := get 2 (by omega)
  obtain ⟨a3, i3, r3⟩ := get 3 (by omega)
  simp only [Nat.add_zero] at r0
  have hu := un4_or (hz _ (List.getElem_mem (show k < text.length by omega))) (hz _ (List.getElem_mem (show k + 1 < text.length by omega))) (hz _ (List.getElem_mem (show k + 2 < text.length by omega))) (hz _ (List.getElem_mem (show k + 3 < text.length by omega)))
  refine ⟨w3.drew, g30_call ?_, ⟨hb3, rd3, h.nb, h.cap⟩, (((Fr.drew _ _).trans (Fr.drew _ _)).trans f3).trans (Fr.drew _ _)⟩
  have j0 : idxA qs.1 qs.2.1 1 0 = some a0 := i0
  have j1 : idxA qs.1 qs.2.1 1 1 = some a1 := i1
  have j2 : idxA qs.1 qs.2.1 1 2 = some a2 := i2
  have j3 : idxA qs.1 qs.2.1 1 3 = some a3 := i3
  unfold g30
  simp only [addr_add, Nat.zero_add, c2, c0, c1, hw1, hn4, e0, e1, es, hw2, hst, j0, r0, j1, r1, j2, r2, j3, r3, Option.bind_some, asP_pointer, asB_bool, asI_int, asS_string, asSl_slice, asM_map, asTup0, asTup1, asTup2, asTup3, asTup4, asTup5, getD0, getD1, getD2, getD3, getD4, Bool.not_true, Bool.not_false, Bool.false_eq_true, Bool.true_eq_false, ↓reduceIte, decide_true, decide_false, Option.isNone_some, Option.isNone_none, Option.isSome_some, Option.isSome_none, beq_self_eq_true, bne_self_eq_false, Bool.and_true, Bool.true_and, Bool.and_false, Bool.false_and, not_true_eq_false, not_false_eq_true]
  rw [hu]

theorem fixed30_end {b : Nat} {q : Option Addr × Nat × Nat} {text : List Int} {k : Nat} (h : Rdr w b q text (k : Int) 0) (hkl : k ≤ text.length) (hk : text.length < k + 4) (hl : text.length ≤ 140737488355328) :
    ∃ w', callF Try.prog 30 #[.pointer (some ⟨b, 0, none⟩)] w = some (.int .u32 0, w') ∧ Rdr w' b q text (k : Int) 6 ∧ Fr [b] w w' := by
  have hql := h.rd.1
  have d1 := h.drew
  have c2 : w.cell? ⟨b, 2, none⟩ = some (.int .i64 0) := h.blk.cell 2
  have c0 : w.drew.cell? ⟨b, 0, none⟩ = some (.slice q.1 q.2.1 q.2.2) := d1.blk.cell 0
  have c1 : w.drew.cell? ⟨b, 1, none⟩ = some (.int .i64 (k : Int)) := d1.blk.cell 1
  have c3 : w.drew.cell? ⟨b, 2, none⟩ = some (.int .i64 0) := d1.blk.cell 2
  have hw1 : IntKind.i64.wrap ((q.2.1 : Int) - (k : Int)) = (q.2.1 : Int) - (k : Int) := wrap_i64 (by omega) (by omega)
  have hn4 : (q.2.1 : Int) - (k : Int) < 4 := by omega
  have hst : st1 w.drew ⟨b, 2, none⟩ (.int .i64 6) = some (w.drew.setCell ⟨b, 2, none⟩ (.int .i64 6)) := d1.blk.st1 (by simp) rfl
  have f3 : Fr [b] w.drew (w.drew.setCell ⟨b, 2, none⟩ (.int .i64 6)) := Fr.setCell
  have e34 : callF Try.prog 34 #[.pointer (some ⟨b, 0, none⟩), .int .i64 6] w.drew = some (.tuple #[], w.drew.setCell ⟨b, 2, none⟩ (.int .i64 6)) := by
    refine g34_call ?_
    unfold g34
    simp only [addr_add, Nat.zero_add, c3, hst, Option.bind_some, asP_pointer, asB_bool, asI_int, asS_string, asSl_slice, asM_map, asTup0, asTup1, asTup2, asTup3, asTup4, asTup5, getD0, getD1, getD2, getD3, getD4, Bool.not_true, Bool.not_false, Bool.false_eq_true, Bool.true_eq_false, ↓reduceIte, decide_true, decide_false, Option.isNone_some, Option.isNone_none, Option.isSome_some, Option.isSome_none, beq_self_eq_true, bne_self_eq_false, Bool.and_true, Bool.true_and, Bool.and_false, Bool.false_and, not_true_eq_false, not_false_eq_true]
  refine ⟨w.drew.setCell ⟨b, 2, none⟩ (.int .i64 6), g30_call ?_, ⟨d1.blk.set 2 _, SlI.fr2 (w := w.drew) h.rd f3 (by intro y hy hm; simp at hm; subst hm; exact h.nb hy), h.nb, h.cap⟩, (Fr.drew _ _).trans f3⟩
  unfold g30
  simp only [addr_add, Nat.zero_add, c2, c0, c1, hw1, hn4, e34, Option.bind_some, asP_pointer, asB_bool, asI_int, asS_string, asSl_slice, asM_map, asTup0, asTup1, asTup2, asTup3, asTup4, asTup5, getD0, getD1, getD2, getD3, getD4, Bool.not_true, Bool.not_false, Bool.false_eq_true, Bool.true_eq_false, ↓reduceIte, decide_true, decide_false, Option.isNone_some, Option.isNone_none, Option.isSome_some, Option.isSome_none, beq_self_eq_true, bne_self_eq_false, Bool.and_true, Bool.true_and, Bool.and_false, Bool.false_and, not_true_eq_false, not_false_eq_true]

theorem fixed30_bad {b : Nat} {q : Option Addr × Nat × Nat} {text : List Int} {k e : Int} (h : Rdr w b q text k e) (he : e ≠ 0) :
    callF Try.prog 30 #[.pointer (some ⟨b, 0, none⟩)] w = some (.int .u32 0, w) := by
  have c2 : w.cell? ⟨b, 2, none⟩ = some (.int .i64 e) := h.blk.cell 2
  have hne : (e != 0) = true := by simpa using he
  refine g30_call ?_
  unfold g30
  simp only [addr_add, Nat.zero_add, c2, hne, Option.bind_some, asP_pointer, asB_bool, asI_int, asS_string, asSl_slice, asM_map, asTup0, asTup1, asTup2, asTup3, asTup4, asTup5, getD0, getD1, getD2, getD3, getD4, Bool.not_true, Bool.not_false, Bool.false_eq_true, Bool.true_eq_false, ↓reduceIte, decide_true, decide_false, Option.isNone_some, Option.isNone_none, Option.isSome_some, Option.isSome_none, beq_self_eq_true, bne_self_eq_false, Bool.and_true, Bool.true_and, Bool.and_false, Bool.false_and, not_true_eq_false, not_false_eq_true]

theorem state31 {b : Nat} {q : Option Addr × Nat × Nat} {text : List Int} {k e : Int} (h : Rdr w b q text k e) :
    ∃ n m, callF Try.prog 31 #[.pointer (some ⟨b, 0, none⟩)] w = some (.tuple #[.int .i64 n, .int .i64 m, .int .i64 e], w.drew) := by
  have d1 := h.drew
  have c0 : w.drew.cell? ⟨b, 0, none⟩ = some (.slice q.1 q.2.1 q.2.2) := d1.blk.cell 0
  have c1 : w.drew.cell? ⟨b, 1, none⟩ = some (.int .i64 k) := d1.blk.cell 1
  have c2 : w.drew.cell? ⟨b, 2, none⟩ = some (.int .i64 e) := d1.blk.cell 2
  refine ⟨k, IntKind.i64.wrap ((q.2.1 : Int) - k), g31_call ?_⟩
  unfold g31
  simp only [addr_add, Nat.zero_add, c0, c1, c2, Option.bind_some, asP_pointer, asB_bool, asI_int, asS_string, asSl_slice, asM_map, asTup0, asTup1, asTup2, asTup3, asTup4, asTup5, getD0, getD1, getD2, getD3, getD4, Bool.not_true, Bool.not_false, Bool.false_eq_true, Bool.true_eq_false, ↓reduceIte, decide_true, decide_false, Option.isNone_some, Option.isNone_none, Option.isSome_some, Option.isSome_none, beq_self_eq_true, bne_self_eq_false, Bool.and_true, Bool.true_and, Bool.and_false, Bool.false_and, not_true_eq_false, not_false_eq_true]
end

/-- what stands at the front of these bytes: (payload, how many bytes, errno) -/
def dec (bs : List Int) : List Int × Nat × Int :=
  if bs.length < 8 then ([], 0, 6)
  else
    let n := un4 (bs.getD 0 0) (bs.getD 1 0) (bs.getD 2 0) (bs.getD 3 0)
    let s := un4 (bs.getD 4 0) (bs.getD 5 0) (bs.getD 6 0) (bs.getD 7 0)
    if n > 4096 then ([], 0, 2)
    else if (bs.length : Int) - 8 < n then ([], 0, 6)
    else if more 0 ((bs.drop 8).take n.toNat) = s then ((bs.drop 8).take n.toNat, 8 + n.toNat, 0) else ([], 0, 8)
end Go.Proofs.Yteekaakkaogpeaa
