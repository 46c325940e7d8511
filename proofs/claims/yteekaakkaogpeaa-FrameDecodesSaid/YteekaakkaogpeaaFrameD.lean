/-
  FrameD: lemmas on what Go functions of this seat come to (for whatever arguments, as each says). No condition but those that stand in each lemma.
-/
import Derived.Test.YteekaakkaogpeaaFrameC
namespace Go.Proofs.Yteekaakkaogpeaa
open Go Go.Ev Go.Crc
set_option maxRecDepth 100000
set_option linter.unusedVariables false
set_option linter.unusedSimpArgs false
section
variable {w : World}

/-- a fresh copy by append to nil -/
theorem copy8 {u : Option Addr × Nat × Nat} {zs : List Int} (hu : Sl8 w u zs) (hl : zs.length ≤ 140737488355328) (cs : Array Bool) :
    ∃ v' w', callB Try.prog .append #[22, 22] 22 cs #[.slice none 0 0, .slice u.1 u.2.1 u.2.2] w = some (.slice v'.1 v'.2.1 v'.2.2, w') ∧ Own w' 5 1 v' (zs.map (Value.int .u8)) ∧
      Fr [] w w' ∧ (∀ y ∈ blkOf v', w.heap.size ≤ y) := by
  obtain ⟨v', w', e, o, f, hv⟩ := app8 (Own.nil w 5 1) (xs := []) hu (by simpa using hl) cs
  refine ⟨v', w', e, o, f, ?_⟩
  intro y hy
  rcases hv with hv | hv
  · simp only [blkOf] at hy; rw [hv] at hy; cases hy
  · rw [hv] at hy; simp at hy; omega

theorem out27 {b : Nat} {q : Option Addr × Nat × Nat} {bs : List Int} (h : Wr w b q bs) (hl : bs.length ≤ 140737488355328) :
    ∃ v' w', callF Try.prog 27 #[.pointer (some ⟨b, 0, none⟩)] w = some (.tuple #[.slice v'.1 v'.2.1 v'.2.2, .int .i64 0], w') ∧ Own w' 5 1 v' (bs.map (Value.int .u8)) ∧ Fr [] w w' ∧ (∀ y ∈ blkOf v', w.heap.size ≤ y) := by
  obtain ⟨v', w', e, o, f, hv⟩ := copy8 h.own.slI hl #[true, false]
  refine ⟨v', w', g27_call ?_, o, f, hv⟩
  have c0 : w.cell? ⟨b, 0, none⟩ = some (.slice q.1 q.2.1 q.2.2) := h.blk.cell 0
  have c1 : w.cell? ⟨b, 1, none⟩ = some (.int .i64 0) := h.blk.cell 1
  unfold g27
  simp only [addr_add, Nat.zero_add, c1, c0, e, Option.bind_some, asP_pointer, asB_bool, asI_int, asS_string, asSl_slice, asM_map, asTup0, asTup1, asTup2, asTup3, asTup4, asTup5, getD0, getD1, getD2, getD3, getD4, Bool.not_true, Bool.not_false, Bool.false_eq_true, Bool.true_eq_false, ↓reduceIte, decide_true, decide_false, Option.isNone_some, Option.isNone_none, Option.isSome_some, Option.isSome_none, beq_self_eq_true, bne_self_eq_false, Bool.and_true, Bool.true_and, Bool.and_false, Bool.false_and, not_true_eq_false, not_false_eq_true]

theorem fixed22 {n : Int} (hn : 0 ≤ n ∧ n < 4294967296) : ∃ w', callF Try.prog 22 #[.int .u32 n] w = some (.slice (some ⟨w.heap.size, 0, none⟩) 4 4, w') ∧ Own w' 5 1 (some ⟨w.heap.size, 0, none⟩, 4, 4) ((le4 n).map (Value.int .u8)) ∧ Fr [] w w' := by
  have harr : (#[.int .u8 (IntKind.u8.wrap (Int.tmod n 256)), .int .u8 (IntKind.u8.wrap (Int.tmod (IntKind.u32.wrap (Int.tdiv n 256)) 256)), .int .u8 (IntKind.u8.wrap (Int.tmod (IntKind.u32.wrap (Int.tdiv n 65536)) 256)), .int .u8 (IntKind.u8.wrap (IntKind.u32.wrap (Int.tdiv n 16777216)))] : Array Value) = ((le4 n).map (Value.int .u8)).toArray := by
    rw [← le4_ref hn]; rfl
  have ho := own_new (w := w) (bs := le4 n) (show 4 ≤ maxLen by decide)
  refine ⟨w.alloc (.cells ((le4 n).map (Value.int .u8)).toArray 5), g22_call ?_, ho, Fr.alloc _⟩
  unfold g22
  rw [harr]

/-- the frame of a payload -/
def enc (p : List Int) : List Int := le4 (p.length : Int) ++ le4 (more 0 p) ++ p

theorem enc_length (p : List Int) : (enc p).length = 8 + p.length := by simp [enc, le4]; omega
theorem enc_zs {p : List Int} (h : Zs p) : Zs (enc p) := by
  intro z hz
  simp only [enc, List.mem_append] at hz
  rcases hz with (hz | hz) | hz
  · exact le4_zs z hz
  · exact le4_zs z hz
  · exact h z hz

/-- a framer, with its table -/
structure Fm (w : World) (fb tb : Nat) : Prop where
  blk : Blk w fb [.pointer (some ⟨tb, 0, none⟩)] 54
  tbl : Tbl w tb
  ne : fb ≠ tb

theorem Fm.fr {fb tb : Nat} {S : List Nat} {w' : World} (h : Fm w fb tb) (f : Fr S w w') (h1 : fb ∉ S) (h2 : tb ∉ S) : Fm w' fb tb := ⟨h.blk.fr f h1, h.tbl.fr f h2, h.ne⟩

theorem encode13 {fb tb : Nat} {u : Option Addr × Nat × Nat} {p : List Int} (h : Fm w fb tb) (hu : Sl8 w u p) (hz : Zs p) (hd : 0 < p.length → tb ∉ blkOf u) (hl : p.length ≤ 4096) :
    ∃ v' w', callF Try.prog 13 #[.pointer (some ⟨fb, 0, none⟩), .slice u.1 u.2.1 u.2.2] w = some (.tuple #[.slice v'.1 v'.2.1 v'.2.2, .int .i64 0], w') ∧
      Own w' 5 1 v' ((enc p).map (Value.int .u8)) ∧ Fm w' fb tb ∧ Fr [tb] w w' ∧ (∀ y ∈ blkOf v', w.heap.size ≤ y) := by
  have hpl := hu.1
  have hfl := h.blk.lt
  have htl := h.tbl.lt
  obtain ⟨e1, r1⟩ := new24 (w := w)
  have f1 : Fr [] w (w.alloc (.cells #[.slice none 0 0, .int .i64 0] 85)) := Fr.alloc _
  have hsz : (w.alloc (.cells #[.slice none 0 0, .int .i64 0] 85)).heap.size = w.heap.size + 1 := Array.size_push _
  generalize w.alloc (.cells #[.slice none 0 0, .int .i64 0] 85) = w1 at e1 r1 f1 hsz
  obtain ⟨q2, w2, e2, r2, f2, hv2⟩ := fixed25 r1 (n := (p.length : Int)) (by omega) (by simp)
  have F2 : Fr [tb] w w2 := (f1.nil.trans f2).mono (by intro y hy hlt; simp [blkOf] at hy; omega)
  have hvq2 : ∀ y ∈ blkOf q2, w.heap.size < y := by
    intro y hy
    rcases hv2 y hy with hh | hh
    · simp [blkOf] at hh
    · omega
  have keep : ∀ {x : World}, Fr [tb] w x → Sl8 x u p := fun F => hu.fr3 F (by intro h0 y hy hm; simp at hm; subst hm; exact hd (by rw [hpl]; exact h0) hy)
  have m2 : Fm w2 fb tb := ⟨h.blk.fr F2 (by simpa using h.ne), (h.tbl.fr f1 (by simp)).fr f2 (by simp [blkOf]; omega), h.ne⟩
  obtain ⟨w3, e3, t3, f3⟩ := sum13 m2.tbl (keep F2) hz hd (by omega)
  have F3 := F2.trans f3
  have hq2l : ∀ y ∈ blkOf q2, y < w2.heap.size := r2.own.lt
  have r3 : Wr w3 w.heap.size q2 (le4 (p.length : Int)) := ⟨r2.blk.fr f3 (by simp; omega), r2.own.fr f3 (by intro y hy hm; simp at hm; have := hvq2 y hy; omega), r2.nb⟩
  obtain ⟨q4, w4, e4, r4, f4, hv4⟩ := fixed25 r3 (more_range 0 p) (by simp [le4])
  have F4 : Fr [tb] w w4 := (F3.mono (T := tb :: w.heap.size :: blkOf q2) (by intro y hy _; simp at hy; simp [hy])).trans (f4.mono (by intro y hy _; simp at hy; rcases hy with hy | hy <;> simp [hy])) |>.mono (by
    intro y hy hlt
    simp at hy
    rcases hy with hy | hy | hy
    · simp [hy]
    · omega
    · have := hvq2 y hy; omega)
  have hvq4 : ∀ y ∈ blkOf q4, w.heap.size < y := by
    intro y hy
    rcases hv4 y hy with hh | hh
    · exact hvq2 y hh
    · have := F3.size; have := r3.blk.lt; omega
  have t4 : TblD w4 tb := t3.fr f4 (by simp; refine ⟨by omega, fun hm => ?_⟩; have := hvq2 _ hm; omega)
  obtain ⟨v5, w5, e5, o5, f5, hv5⟩ := out27 r4 (by simp [le4])
  have F5 := F4.trans f5.nil
  obtain ⟨v6, w6, e6, o6, f6, hv6⟩ := app8 o5 (keep F5) (by simp [le4]; omega) #[false, false]
  have hw5 : w.heap.size < w4.heap.size := r4.blk.lt
  have hv6' : ∀ y ∈ blkOf v6, w.heap.size ≤ y := by
    intro y hy
    rcases hv6 with hv | hv
    · have : y ∈ blkOf v5 := by simp only [blkOf] at hy ⊢; rw [hv] at hy; exact hy
      have := hv5 y this; omega
    · rw [hv] at hy; simp at hy; have := f5.size; omega
  have F6 : Fr [tb] w w6 := (F5.mono (T := tb :: blkOf v5) (by intro y hy _; simp at hy; simp [hy])).trans (f6.mono (by intro y hy _; simp [hy])) |>.mono (by
    intro y hy hlt
    simp at hy
    rcases hy with hy | hy
    · simp [hy]
    · have := hv5 y hy; omega)
  have hnt : tb ∉ blkOf v5 := fun hm => by have := hv5 _ hm; omega
  have t6 : TblD w6 tb := (t4.fr f5 (by simp)).fr f6 hnt
  refine ⟨v6, w6, g13_call ?_, o6, ⟨h.blk.fr F6 (by simpa using h.ne), .inr t6, h.ne⟩, F6, hv6'⟩
  have hc : ¬ (u.2.1 : Int) > 4096 := by omega
  have hw : IntKind.u32.wrap (u.2.1 : Int) = (p.length : Int) := by rw [w32]; omega
  have cf : w2.cell? ⟨fb, 0, none⟩ = some (.pointer (some ⟨tb, 0, none⟩)) := m2.blk.cell 0
  unfold g13
  simp only [hc, hw, e1, e2, cf, e3, e4, e5, e6, Option.bind_some, asP_pointer, asB_bool, asI_int, asS_string, asSl_slice, asM_map, asTup0, asTup1, asTup2, asTup3, asTup4, asTup5, getD0, getD1, getD2, getD3, getD4, Bool.not_true, Bool.not_false, Bool.false_eq_true, Bool.true_eq_false, ↓reduceIte, decide_true, decide_false, Option.isNone_some, Option.isNone_none, Option.isSome_some, Option.isSome_none, beq_self_eq_true, bne_self_eq_false, Bool.and_true, Bool.true_and, Bool.and_false, Bool.false_and, not_true_eq_false, not_false_eq_true]
end
end Go.Proofs.Yteekaakkaogpeaa
