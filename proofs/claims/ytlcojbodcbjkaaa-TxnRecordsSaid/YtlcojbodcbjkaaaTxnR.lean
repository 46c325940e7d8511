/-
  TxnR: lemmas on what Go functions of this seat come to (for whatever arguments, as each says). No condition but those that stand in each lemma.
-/
import Derived.Test.YtlcojbodcbjkaaaTxnQ
namespace Go.Proofs.Ytlcojbodcbjkaaa
open Go Go.Ev
set_option maxRecDepth 100000
set_option linter.unusedVariables false
set_option linter.unusedSimpArgs false

theorem encI_len {z : Int} (h : -9223372036854775808 ≤ z ∧ z ≤ 9223372036854775807) : (encI z).length ≤ 10 := encU_len10 (zig_lt h)
theorem encL_len {l : List Int} (h : ∀ z ∈ l, -9223372036854775808 ≤ z ∧ z ≤ 9223372036854775807) (hl : l.length ≤ 17592186043904) : (encL l).length ≤ 10 + 10 * l.length := by
  have h1 := encU_len10 (n := l.length) (by omega)
  have h2 := flat_len l h
  unfold encL
  rw [List.length_append]; omega

theorem encode29 (w : World) (r : RV) {q : ShT} (hu : SlI .i64 w q r.parts) (h : r.Ok) : ∃ v w', callF Try.prog 29 #[r.arg q] w = some (.tuple #[.slice v.1 v.2.1 v.2.2, .int .i64 (if badR r then 1 else 0)], w') ∧ Own w' 5 1 v (bytesV (if badR r then [] else recB r)) ∧ Fr [] w w' ∧ ∀ y ∈ blkOf v, w.heap.size ≤ y := by
  have hq := hu.1
  have fa : Fr [] w (w.alloc (.cells #[.int .i64 r.k, .int .i64 r.tx, .int .i64 r.inc, .int .u64 r.pid, .int .i64 r.ep, .slice q.1 q.2.1 q.2.2, .bool r.com] 30)) := Fr.alloc _
  have ba := Blk.new w (r.cs q) 30
  change Blk (w.alloc (.cells #[.int .i64 r.k, .int .i64 r.tx, .int .i64 r.inc, .int .u64 r.pid, .int .i64 r.ep, .slice q.1 q.2.1 q.2.2, .bool r.com] 30)) _ _ _ at ba
  obtain ⟨w1, hw1⟩ : ∃ w1, w.alloc (.cells #[.int .i64 r.k, .int .i64 r.tx, .int .i64 r.inc, .int .u64 r.pid, .int .i64 r.ep, .slice q.1 q.2.1 q.2.2, .bool r.com] 30) = w1 := ⟨_, rfl⟩
  rw [hw1] at fa ba
  have c0 : w1.cell? ⟨w.heap.size, 0, none⟩ = some (.int .i64 r.k) := ba.cell 0
  have c1 : w1.cell? ⟨w.heap.size, 1, none⟩ = some (.int .i64 r.tx) := ba.cell 1
  have c5 : w1.cell? ⟨w.heap.size, 5, none⟩ = some (.slice q.1 q.2.1 q.2.2) := ba.cell 5
  have bad : badR r → g29 r.k r.tx r.inc r.pid r.ep q r.com w = some (.tuple #[.slice none 0 0, .int .i64 1], w1) := by
    intro hb
    unfold g29
    rw [hw1]
    by_cases h1 : r.k < 1
    · have k1 : decide (r.k < 1) = true := by simp [h1]
      simp only [c0, k1, obs, asP_pointer, asB_bool, asI_int, asS_string, asSl_slice, asM_map, asTup0, asTup1, asTup2, asTup3, asTup4, asTup5, asTup6, asTup7, asTup8, asTup9, asAgg2, asAgg3, asAgg4, asAgg5, asAgg6, asAgg7, asAgg8, asAgg9, asAgg12, getD0, getD1, getD2, getD3, getD4, getD5, getD6, getD7, getD8, getD9, getD10, getD11, getD12, getD13, getD14, getD15, getD16, getD17, getD18, getD19, Bool.not_true, Bool.not_false, Bool.false_eq_true, Bool.true_eq_false, ↓reduceIte, decide_true, decide_false, Option.isNone_some, Option.isNone_none, Option.isSome_some, Option.isSome_none, beq_self_eq_true, bne_self_eq_false, Bool.and_true, Bool.true_and, Bool.and_false, Bool.false_and, not_true_eq_false, not_false_eq_true]
    · have k1 : decide (r.k < 1) = false := by simp; omega
      by_cases h2 : 4 < r.k
      · have k2 : decide (r.k > 4) = true := by simp [h2]
        simp only [c0, k1, k2, obs, asP_pointer, asB_bool, asI_int, asS_string, asSl_slice, asM_map, asTup0, asTup1, asTup2, asTup3, asTup4, asTup5, asTup6, asTup7, asTup8, asTup9, asAgg2, asAgg3, asAgg4, asAgg5, asAgg6, asAgg7, asAgg8, asAgg9, asAgg12, getD0, getD1, getD2, getD3, getD4, getD5, getD6, getD7, getD8, getD9, getD10, getD11, getD12, getD13, getD14, getD15, getD16, getD17, getD18, getD19, Bool.not_true, Bool.not_false, Bool.false_eq_true, Bool.true_eq_false, ↓reduceIte, decide_true, decide_false, Option.isNone_some, Option.isNone_none, Option.isSome_some, Option.isSome_none, beq_self_eq_true, bne_self_eq_false, Bool.and_true, Bool.true_and, Bool.and_false, Bool.false_and, not_true_eq_false, not_false_eq_true]
      · have k2 : decide (r.k > 4) = false := by simp; omega
        by_cases h3 : r.tx < 0
        · have k3 : decide (r.tx < 0) = true := by simp [h3]
          simp only [c0, k1, k2, addr_add, Nat.zero_add, c1, k3, obs, asP_pointer, asB_bool, asI_int, asS_string, asSl_slice, asM_map, asTup0, asTup1, asTup2, asTup3, asTup4, asTup5, asTup6, asTup7, asTup8, asTup9, asAgg2, asAgg3, asAgg4, asAgg5, asAgg6, asAgg7, asAgg8, asAgg9, asAgg12, getD0, getD1, getD2, getD3, getD4, getD5, getD6, getD7, getD8, getD9, getD10, getD11, getD12, getD13, getD14, getD15, getD16, getD17, getD18, getD19, Bool.not_true, Bool.not_false, Bool.false_eq_true, Bool.true_eq_false, ↓reduceIte, decide_true, decide_false, Option.isNone_some, Option.isNone_none, Option.isSome_some, Option.isSome_none, beq_self_eq_true, bne_self_eq_false, Bool.and_true, Bool.true_and, Bool.and_false, Bool.false_and, not_true_eq_false, not_false_eq_true]
        · have k3 : decide (r.tx < 0) = false := by simp; omega
          by_cases h4 : 7 < r.tx
          · have k4 : decide (r.tx ≥ 8) = true := by simp; omega
            simp only [c0, k1, k2, addr_add, Nat.zero_add, c1, k3, k4, obs, asP_pointer, asB_bool, asI_int, asS_string, asSl_slice, asM_map, asTup0, asTup1, asTup2, asTup3, asTup4, asTup5, asTup6, asTup7, asTup8, asTup9, asAgg2, asAgg3, asAgg4, asAgg5, asAgg6, asAgg7, asAgg8, asAgg9, asAgg12, getD0, getD1, getD2, getD3, getD4, getD5, getD6, getD7, getD8, getD9, getD10, getD11, getD12, getD13, getD14, getD15, getD16, getD17, getD18, getD19, Bool.not_true, Bool.not_false, Bool.false_eq_true, Bool.true_eq_false, ↓reduceIte, decide_true, decide_false, Option.isNone_some, Option.isNone_none, Option.isSome_some, Option.isSome_none, beq_self_eq_true, bne_self_eq_false, Bool.and_true, Bool.true_and, Bool.and_false, Bool.false_and, not_true_eq_false, not_false_eq_true]
          · have k4 : decide (r.tx ≥ 8) = false := by simp; omega
            have k5 : decide ((q.2.1 : Int) > 6) = true := by unfold badR at hb; simp; omega
            simp only [c0, k1, k2, addr_add, Nat.zero_add, c1, k3, k4, c5, k5, obs, asP_pointer, asB_bool, asI_int, asS_string, asSl_slice, asM_map, asTup0, asTup1, asTup2, asTup3, asTup4, asTup5, asTup6, asTup7, asTup8, asTup9, asAgg2, asAgg3, asAgg4, asAgg5, asAgg6, asAgg7, asAgg8, asAgg9, asAgg12, getD0, getD1, getD2, getD3, getD4, getD5, getD6, getD7, getD8, getD9, getD10, getD11, getD12, getD13, getD14, getD15, getD16, getD17, getD18, getD19, Bool.not_true, Bool.not_false, Bool.false_eq_true, Bool.true_eq_false, ↓reduceIte, decide_true, decide_false, Option.isNone_some, Option.isNone_none, Option.isSome_some, Option.isSome_none, beq_self_eq_true, bne_self_eq_false, Bool.and_true, Bool.true_and, Bool.and_false, Bool.false_and, not_true_eq_false, not_false_eq_true]
  by_cases hb : badR r
  · rw [if_pos hb, if_pos hb]
    exact ⟨(none, 0, 0), w1, g29_call (bad hb), Own.nil _ _ _, fa, by simp [blkOf]⟩
  · rw [if_neg hb, if_neg hb]
    have hb' : ¬ r.k < 1 ∧ ¬ 4 < r.k ∧ ¬ r.tx < 0 ∧ ¬ 7 < r.tx ∧ ¬ 6 < r.parts.length := by unfold badR at hb; omega
    have k1 : decide (r.k < 1) = false := by simp; omega
    have k2 : decide (r.k > 4) = false := by simp; omega
    have k3 : decide (r.tx < 0) = false := by simp; omega
    have k4 : decide (r.tx ≥ 8) = false := by simp; omega
    have k5 : decide ((q.2.1 : Int) > 6) = false := by simp; omega
    obtain ⟨w2, e2, W2, f2⟩ := new50 w1
    have b2 := ba.fr f2 (by simp)
    have d0 : w2.cell? ⟨w.heap.size, 0, none⟩ = some (.int .i64 r.k) := b2.cell 0
    have d1 : w2.cell? ⟨w.heap.size, 1, none⟩ = some (.int .i64 r.tx) := b2.cell 1
    have d2 : w2.cell? ⟨w.heap.size, 2, none⟩ = some (.int .i64 r.inc) := b2.cell 2
    have d4 : w2.cell? ⟨w.heap.size, 4, none⟩ = some (.int .i64 r.ep) := b2.cell 4
    have fl : Fr [] w2 (w2.alloc (.cells #[.int .i64 r.k, .int .i64 r.tx, .int .i64 r.inc, .int .i64 r.ep] 3)) := Fr.alloc _
    have bl := Blk.new w2 (numsV [r.k, r.tx, r.inc, r.ep]) 3
    change Blk (w2.alloc (.cells #[.int .i64 r.k, .int .i64 r.tx, .int .i64 r.inc, .int .i64 r.ep] 3)) _ _ _ at bl
    obtain ⟨w3, hw3⟩ : ∃ w3, w2.alloc (.cells #[.int .i64 r.k, .int .i64 r.tx, .int .i64 r.inc, .int .i64 r.ep] 3) = w3 := ⟨_, rfl⟩
    rw [hw3] at fl bl
    have W3 := W2.fr fl (by simp) (by simp)
    have z1 := fa.size
    have z2 := f2.size
    have z3 := fl.size
    have lz := ba.lt
    have hz : ∀ z ∈ [r.k, r.tx, r.inc, r.ep], -9223372036854775808 ≤ z ∧ z ≤ 9223372036854775807 := by
      intro z hz
      simp only [List.mem_cons, List.not_mem_nil, or_false] at hz
      rcases hz with rfl | rfl | rfl | rfl
      · exact h.k
      · exact h.tx
      · exact h.inc
      · exact h.ep
    -- the four numbers
    obtain ⟨t, w4, g1, rfl, q4, W4, f4, n4⟩ := loopS_countX 0 (b := g29_l23_b (.pointer (some ⟨w1.heap.size, 0, none⟩), w2) (some ⟨w1.heap.size, 0, none⟩) w)
      (I := fun k s x => s = (k : Int) ∧ ∃ q4, Wr x w1.heap.size w1.heap.size q4 ((([r.k, r.tx, r.inc, r.ep].take k).map encI).flatten) ∧ Fr (w1.heap.size :: blkOf (none, 0, 0)) w3 x ∧ ∀ y ∈ blkOf q4, y ∈ blkOf (none, 0, 0) ∨ w3.heap.size ≤ y) (n := 4)
      (fun k s x hk ⟨hs, q4, W4, f4, n4⟩ => by
        subst hs
        have hl4 : [r.k, r.tx, r.inc, r.ep].length = 4 := rfl
        have hne : w2.heap.size ≠ w1.heap.size := by have := W2.blk.lt; omega
        have b4 := bl.fr f4 (by simp [blkOf]; omega)
        obtain ⟨a, i1, cc⟩ := (lit_sl b4).get (i := k) (by simpa using hk)
        have hfl := flat_len ([r.k, r.tx, r.inc, r.ep].take k) (fun z hz' => hz z (List.mem_of_mem_take hz'))
        simp only [List.length_take] at hfl
        obtain ⟨q5, x5, e5, W5, f5, n5⟩ := int51 W4 (hz ([r.k, r.tx, r.inc, r.ep][k]'(by simpa using hk)) (List.getElem_mem _)) (by omega)
        have k0 : decide ((k : Int) < 4) = true := by simp; omega
        have kw := wrap_succ (n := k) (by omega)
        have i1' : idxA (some ⟨w2.heap.size, 0, none⟩) 4 1 (k : Int) = some a := i1
        refine ⟨_, x5, ?_, rfl, q5, ?_, fr_wr (S := []) f4 f5 n4, new_wr f4 n4 n5⟩
        · unfold g29_l23_b
          simp only [k0, i1', cc, e5, kw, obs, asP_pointer, asB_bool, asI_int, asS_string, asSl_slice, asM_map, asTup0, asTup1, asTup2, asTup3, asTup4, asTup5, asTup6, asTup7, asTup8, asTup9, asAgg2, asAgg3, asAgg4, asAgg5, asAgg6, asAgg7, asAgg8, asAgg9, asAgg12, getD0, getD1, getD2, getD3, getD4, getD5, getD6, getD7, getD8, getD9, getD10, getD11, getD12, getD13, getD14, getD15, getD16, getD17, getD18, getD19, Bool.not_true, Bool.not_false, Bool.false_eq_true, Bool.true_eq_false, ↓reduceIte, decide_true, decide_false, Option.isNone_some, Option.isNone_none, Option.isSome_some, Option.isSome_none, beq_self_eq_true, bne_self_eq_false, Bool.and_true, Bool.true_and, Bool.and_false, Bool.false_and, not_true_eq_false, not_false_eq_true]
        · have : (([r.k, r.tx, r.inc, r.ep].take (k + 1)).map encI).flatten = (([r.k, r.tx, r.inc, r.ep].take k).map encI).flatten ++ encI ([r.k, r.tx, r.inc, r.ep][k]'(by simpa using hk)) := by
            rw [List.take_succ_eq_append_getElem (by simpa using hk), List.map_append, List.flatten_append]; simp
          rw [this]; exact W5)
      (fun s x ⟨hs, _⟩ => by subst hs; rfl) (k := 0) (s := 0) (w := w3) (Nat.zero_le _) ⟨rfl, (none, 0, 0), by simpa using W3, Fr.refl _ _, fun y hy => .inl hy⟩
    have hI4 : (([r.k, r.tx, r.inc, r.ep].take 4).map encI).flatten = encI r.k ++ encI r.tx ++ encI r.inc ++ encI r.ep := by simp
    rw [hI4] at W4
    have lk := encI_len h.k
    have lt := encI_len h.tx
    have li := encI_len h.inc
    have le := encI_len h.ep
    have lp := encU_len10 h.pid.2
    have ll := encL_len h.parts (by omega)
    -- all below the writer stays
    have fresh : ∀ {q' : ShT}, (∀ y ∈ blkOf q', y ∈ blkOf (none, 0, 0) ∨ w3.heap.size ≤ y) → ∀ y ∈ blkOf q', w1.heap.size ≤ y := fun hn y hy => by
      rcases hn y hy with hh | hh
      · simp [blkOf] at hh
      · omega
    have b4 := (b2.fr fl (by simp)).fr f4 (by simp [blkOf]; omega)
    have e3 : w4.cell? ⟨w.heap.size, 3, none⟩ = some (.int .u64 r.pid) := b4.cell 3
    have hpid : ((r.pid.toNat : Nat) : Int) = r.pid := by have := h.pid.1; omega
    obtain ⟨q5, w5, e5, W5, f5, n5⟩ := uint52 W4 h.pid.2 (by simp only [List.length_append]; omega)
    rw [hpid] at e5
    have N5 := new_wr f4 n4 n5
    have F5 := fr_wr (S := []) f4 f5 n4
    have b5 := (b2.fr fl (by simp)).fr F5 (by simp [blkOf]; omega)
    have e35 : w5.cell? ⟨w.heap.size, 5, none⟩ = some (.slice q.1 q.2.1 q.2.2) := b5.cell 5
    have hlt : 0 < q.2.1 → ∀ y ∈ blkOf q, y < w.heap.size := fun h0 y hy => hu.slC.lt (by simp; omega) y hy
    have F35 : Fr [] w w3 := (Fr.mono (Fr.app (Fr.app fa f2) fl) (by have z0_ := Fr.size fa; have z1_ := Fr.size f2; have z2_ := Fr.size fl; intro y_ hy_ hl_; grind [blkOf]))
    have hu5 : SlI .i64 w5 q r.parts := (hu.fr3 F35 (by simp)).fr3 F5 (fun h0 y hy hm => by have := hlt h0 y hy; simp [blkOf] at hm; omega)
    obtain ⟨q6, w6, e6, W6, f6, n6⟩ := ints53 W5 hu5 (fun h0 y hy => ⟨by have := hlt h0 y hy; omega, fun hm => by have := hlt h0 y hy; have := fresh N5 y hm; omega⟩) h.parts (by omega) (by simp only [List.length_append]; omega)
    have N6 := new_wr F5 N5 n6
    have F6 := fr_wr (S := []) F5 f6 N5
    have b6 := (b2.fr fl (by simp)).fr F6 (by simp [blkOf]; omega)
    have e36 : w6.cell? ⟨w.heap.size, 6, none⟩ = some (.bool r.com) := b6.cell 6
    obtain ⟨q7, w7, e7, W7, f7, n7⟩ := flag54 W6 r.com (by simp only [List.length_append]; omega)
    have F7 := fr_wr (S := []) F6 f7 N6
    have lf : (encF r.com).length = 1 := rfl
    obtain ⟨q8, w8, e8, o8, f8, n8⟩ := out55 W7 (by simp only [List.length_append]; omega)
    have F37 : Fr [] w w7 := (F35.app F7).mono (by intro y hy hl; simp [blkOf] at hy; omega)
    refine ⟨q8, w8, g29_call (u0c0 := r.k) (u0c1 := r.tx) (u0c2 := r.inc) (u0c3 := r.pid) (u0c4 := r.ep) (u0c5 := q) (u0c6 := r.com) ?_, o8, (Fr.mono (Fr.app F37 f8) (by have z0_ := Fr.size F37; have z1_ := Fr.size f8; intro y_ hy_ hl_; grind [blkOf])), fun y hy => by have := n8 y hy; have := F37.size; omega⟩
    unfold g29
    rw [hw1]
    simp only [c0, k1, k2, addr_add, Nat.zero_add, c1, k3, k4, c5, k5, e2, d0, d1, d2, d4, obs, asP_pointer, asB_bool, asI_int, asS_string, asSl_slice, asM_map, asTup0, asTup1, asTup2, asTup3, asTup4, asTup5, asTup6, asTup7, asTup8, asTup9, asAgg2, asAgg3, asAgg4, asAgg5, asAgg6, asAgg7, asAgg8, asAgg9, asAgg12, getD0, getD1, getD2, getD3, getD4, getD5, getD6, getD7, getD8, getD9, getD10, getD11, getD12, getD13, getD14, getD15, getD16, getD17, getD18, getD19, Bool.not_true, Bool.not_false, Bool.false_eq_true, Bool.true_eq_false, ↓reduceIte, decide_true, decide_false, Option.isNone_some, Option.isNone_none, Option.isSome_some, Option.isSome_none, beq_self_eq_true, bne_self_eq_false, Bool.and_true, Bool.true_and, Bool.and_false, Bool.false_and, not_true_eq_false, not_false_eq_true]
    rw [hw3, g29_l23_x0_of g1]
    unfold g29_l23_x0
    simp only [addr_add, Nat.zero_add, e3, e5, e35, e6, e36, e7, e8, obs, asP_pointer, asB_bool, asI_int, asS_string, asSl_slice, asM_map, asTup0, asTup1, asTup2, asTup3, asTup4, asTup5, asTup6, asTup7, asTup8, asTup9, asAgg2, asAgg3, asAgg4, asAgg5, asAgg6, asAgg7, asAgg8, asAgg9, asAgg12, getD0, getD1, getD2, getD3, getD4, getD5, getD6, getD7, getD8, getD9, getD10, getD11, getD12, getD13, getD14, getD15, getD16, getD17, getD18, getD19, Bool.not_true, Bool.not_false, Bool.false_eq_true, Bool.true_eq_false, ↓reduceIte, decide_true, decide_false, Option.isNone_some, Option.isNone_none, Option.isSome_some, Option.isSome_none, beq_self_eq_true, bne_self_eq_false, Bool.and_true, Bool.true_and, Bool.and_false, Bool.false_and, not_true_eq_false, not_false_eq_true]

theorem docenc27 (w : World) (r : RV) {q : ShT} (hu : SlI .i64 w q r.parts) (h : r.Ok) : ∃ v w', callF Try.prog 27 #[r.arg q] w = some (.tuple #[.slice v.1 v.2.1 v.2.2, .int .i64 (if badR r then 1 else 0)], w') ∧ Own w' 5 1 v (bytesV (if badR r then [] else recB r)) ∧ Fr [] w w' ∧ ∀ y ∈ blkOf v, w.heap.size ≤ y := by
  have hq := hu.1
  have fa : Fr [] w (w.alloc (.cells #[.int .i64 r.k, .int .i64 r.tx, .int .i64 r.inc, .int .u64 r.pid, .int .i64 r.ep, .slice q.1 q.2.1 q.2.2, .bool r.com] 30)) := Fr.alloc _
  have ba := Blk.new w (r.cs q) 30
  change Blk (w.alloc (.cells #[.int .i64 r.k, .int .i64 r.tx, .int .i64 r.inc, .int .u64 r.pid, .int .i64 r.ep, .slice q.1 q.2.1 q.2.2, .bool r.com] 30)) _ _ _ at ba
  obtain ⟨w1, hw1⟩ : ∃ w1, w.alloc (.cells #[.int .i64 r.k, .int .i64 r.tx, .int .i64 r.inc, .int .u64 r.pid, .int .i64 r.ep, .slice q.1 q.2.1 q.2.2, .bool r.com] 30) = w1 := ⟨_, rfl⟩
  rw [hw1] at fa ba
  have ld := ba.ldN (n := 7) rfl
  simp only [RV.cs] at ld
  obtain ⟨w2, e2, f2⟩ := bad40 w1 r hq.symm
  simp only [RV.arg] at e2
  by_cases hb : badR r
  · rw [if_pos hb, if_pos hb]
    have kb : decide (badR r) = true := by simp [hb]
    refine ⟨(none, 0, 0), w2, g27_call (u0c0 := r.k) (u0c1 := r.tx) (u0c2 := r.inc) (u0c3 := r.pid) (u0c4 := r.ep) (u0c5 := q) (u0c6 := r.com) ?_, Own.nil _ _ _, (Fr.mono (Fr.app fa f2) (by have z0_ := Fr.size fa; have z1_ := Fr.size f2; intro y_ hy_ hl_; grind [blkOf])), by simp [blkOf]⟩
    unfold g27
    rw [hw1]
    simp only [ld, e2, kb, obs, asP_pointer, asB_bool, asI_int, asS_string, asSl_slice, asM_map, asTup0, asTup1, asTup2, asTup3, asTup4, asTup5, asTup6, asTup7, asTup8, asTup9, asAgg2, asAgg3, asAgg4, asAgg5, asAgg6, asAgg7, asAgg8, asAgg9, asAgg12, getD0, getD1, getD2, getD3, getD4, getD5, getD6, getD7, getD8, getD9, getD10, getD11, getD12, getD13, getD14, getD15, getD16, getD17, getD18, getD19, Bool.not_true, Bool.not_false, Bool.false_eq_true, Bool.true_eq_false, ↓reduceIte, decide_true, decide_false, Option.isNone_some, Option.isNone_none, Option.isSome_some, Option.isSome_none, beq_self_eq_true, bne_self_eq_false, Bool.and_true, Bool.true_and, Bool.and_false, Bool.false_and, not_true_eq_false, not_false_eq_true]
  · rw [if_neg hb, if_neg hb]
    have kb : decide (badR r) = false := by simp [hb]
    have hb' : ¬ 6 < r.parts.length := by unfold badR at hb; omega
    have lk := encI_len h.k
    have lt := encI_len h.tx
    have li := encI_len h.inc
    have le := encI_len h.ep
    have lp := encU_len10 h.pid.2
    have ll := encL_len h.parts (by omega)
    have lf : (encF r.com).length = 1 := rfl
    have hpid : ((r.pid.toNat : Nat) : Int) = r.pid := by have := h.pid.1; omega
    have F2 : Fr [] w w2 := (Fr.mono (Fr.app fa f2) (by have z0_ := Fr.size fa; have z1_ := Fr.size f2; intro y_ hy_ hl_; grind [blkOf]))
    have B2 := ba.fr f2 (by simp)
    have c0 : w2.cell? ⟨w.heap.size, 0, none⟩ = some (.int .i64 r.k) := B2.cell 0
    obtain ⟨v3, w3, e3, o3, f3, n3⟩ := int41 w2 h.k
    have B3 := B2.fr f3 (by simp)
    have c1 : w3.cell? ⟨w.heap.size, 1, none⟩ = some (.int .i64 r.tx) := B3.cell 1
    obtain ⟨v4, w4, e4, o4, f4, n4⟩ := int41 w3 h.tx
    -- one more piece
    have step : ∀ {x y : World} {v u : ShT} {xs ys : List Int}, Own x 5 1 v (bytesV xs) → (∀ z ∈ blkOf v, w.heap.size < z) → Fr [] w x → Fr [] x y → Own y 5 1 u (bytesV ys) → xs.length ≤ 100000000000 → ys.length ≤ 100000000000 → Blk x w.heap.size (r.cs q) 30 →
        ∃ v' y', callB Try.prog .append #[58, 58] 58 #[false, false] #[.slice v.1 v.2.1 v.2.2, .slice u.1 u.2.1 u.2.2] y = some (.slice v'.1 v'.2.1 v'.2.2, y') ∧ Own y' 5 1 v' (bytesV (xs ++ ys)) ∧ (∀ z ∈ blkOf v', w.heap.size < z) ∧ Fr [] w y' ∧ Blk y' w.heap.size (r.cs q) 30 := by
      intro x y v u xs ys ox nx fx fxy ou hl1 hl2 bx
      obtain ⟨v', y', e, o, f, n⟩ := puts1 (ox.fr fxy (by simp)) ou (by omega) (by omega)
      have fy : Fr [] w y := (Fr.mono (Fr.app fx fxy) (by have z0_ := Fr.size fx; have z1_ := Fr.size fxy; intro y_ hy_ hl_; grind [blkOf]))
      refine ⟨v', y', e, o, fun z hz => ?_, fr_new fy (fun z hz => by have := nx z hz; omega) f, (bx.fr fxy (by simp)).fr f (fun hm => by have := nx _ hm; omega)⟩
      rcases n z hz with hh | hh
      · exact nx z hh
      · have := (bx.fr fxy (by simp)).lt; omega
    have lB2 := B2.lt
    obtain ⟨v5, w5, e5, o5, n5, f5, B5⟩ := step o3 (fun z hz => by have := n3 z hz; omega) (Fr.mono (Fr.app F2 f3) (by have z0_ := Fr.size F2; have z1_ := Fr.size f3; intro y_ hy_ hl_; grind [blkOf])) f4 o4 (by omega) (by omega) B3
    have c2 : w5.cell? ⟨w.heap.size, 2, none⟩ = some (.int .i64 r.inc) := B5.cell 2
    obtain ⟨v6, w6, e6, o6, f6, n6⟩ := int41 w5 h.inc
    obtain ⟨v7, w7, e7, o7, n7, f7, B7⟩ := step o5 n5 f5 f6 o6 (by simp only [List.length_append]; omega) (by omega) B5
    have c4 : w7.cell? ⟨w.heap.size, 4, none⟩ = some (.int .i64 r.ep) := B7.cell 4
    obtain ⟨v8, w8, e8, o8, f8, n8⟩ := int41 w7 h.ep
    obtain ⟨v9, w9, e9, o9, n9, f9, B9⟩ := step o7 n7 f7 f8 o8 (by simp only [List.length_append]; omega) (by omega) B7
    have c3 : w9.cell? ⟨w.heap.size, 3, none⟩ = some (.int .u64 r.pid) := B9.cell 3
    obtain ⟨v10, w10, e10, o10, f10, n10⟩ := uint42 w9 h.pid.2
    rw [hpid] at e10
    obtain ⟨v11, w11, e11, o11, n11, f11, B11⟩ := step o9 n9 f9 f10 o10 (by simp only [List.length_append]; omega) (by omega) B9
    have c5 : w11.cell? ⟨w.heap.size, 5, none⟩ = some (.slice q.1 q.2.1 q.2.2) := B11.cell 5
    obtain ⟨v12, w12, e12, o12, f12, n12⟩ := ints43 (hu.fr3 f11 (by simp)) h.parts (by omega)
    obtain ⟨v13, w13, e13, o13, n13, f13, B13⟩ := step o11 n11 f11 f12 o12 (by simp only [List.length_append]; omega) (by omega) B11
    have c6 : w13.cell? ⟨w.heap.size, 6, none⟩ = some (.bool r.com) := B13.cell 6
    obtain ⟨v14, w14, e14, o14, f14, n14⟩ := flag44 w13 r.com
    obtain ⟨v15, w15, e15, o15, n15, f15, B15⟩ := step o13 n13 f13 f14 o14 (by simp only [List.length_append]; omega) (by omega) B13
    refine ⟨v15, w15, g27_call (u0c0 := r.k) (u0c1 := r.tx) (u0c2 := r.inc) (u0c3 := r.pid) (u0c4 := r.ep) (u0c5 := q) (u0c6 := r.com) ?_, o15, f15, fun y hy => by have := n15 y hy; omega⟩
    unfold g27
    rw [hw1]
    simp only [ld, e2, kb, c0, e3, addr_add, Nat.zero_add, c1, e4, e5, c2, e6, e7, c4, e8, e9, c3, e10, e11, c5, e12, e13, c6, e14, e15, obs, asP_pointer, asB_bool, asI_int, asS_string, asSl_slice, asM_map, asTup0, asTup1, asTup2, asTup3, asTup4, asTup5, asTup6, asTup7, asTup8, asTup9, asAgg2, asAgg3, asAgg4, asAgg5, asAgg6, asAgg7, asAgg8, asAgg9, asAgg12, getD0, getD1, getD2, getD3, getD4, getD5, getD6, getD7, getD8, getD9, getD10, getD11, getD12, getD13, getD14, getD15, getD16, getD17, getD18, getD19, Bool.not_true, Bool.not_false, Bool.false_eq_true, Bool.true_eq_false, ↓reduceIte, decide_true, decide_false, Option.isNone_some, Option.isNone_none, Option.isSome_some, Option.isSome_none, beq_self_eq_true, bne_self_eq_false, Bool.and_true, Bool.true_and, Bool.and_false, Bool.false_and, not_true_eq_false, not_false_eq_true]
end Go.Proofs.Ytlcojbodcbjkaaa
