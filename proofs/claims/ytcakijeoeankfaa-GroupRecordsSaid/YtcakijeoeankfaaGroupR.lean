/-
  GroupR: lemmas on what Go functions of this seat come to (for whatever arguments, as each says). No condition but those that stand in each lemma.
-/
import Derived.Test.YtcakijeoeankfaaGroupQ
namespace Go.Proofs.Ytcakijeoeankfaa
open Go Go.Ev
set_option maxRecDepth 100000
set_option linter.unusedVariables false
set_option linter.unusedSimpArgs false

theorem encI_len {z : Int} (h : -9223372036854775808 ≤ z ∧ z ≤ 9223372036854775807) : (encI z).length ≤ 10 := encU_len10 (zig_lt h)
theorem encL_len {l : List Int} (h : ∀ z ∈ l, -9223372036854775808 ≤ z ∧ z ≤ 9223372036854775807) (hl : l.length ≤ 17592186043904) : (encL l).length ≤ 10 + 10 * l.length := by
  have h1 := encU_len10 (n := l.length) (by omega)
  have h2 := flat_len l h
  unfold encL
  rw [List.length_append]; omega
theorem grB_len {r : GV} (h : r.Ok) (hl : r.mem.length ≤ 17592186043904) : (grB r).length ≤ 60 + 10 * r.mem.length := by
  have h1 := encI_len h.k
  have h2 := encI_len h.grp
  have h3 := encI_len h.gen
  have h4 := encI_len h.part
  have h5 := encI_len h.off
  have h6 := encL_len h.mem hl
  unfold grB
  simp only [List.length_append]
  omega
theorem grB_range (r : GV) : ∀ b ∈ grB r, 0 ≤ b ∧ b ≤ 255 := by
  intro b hb
  unfold grB encI encL at hb
  simp only [List.mem_append] at hb
  rcases hb with ((((hb | hb) | hb) | hb) | hb) | hb | hb
  · exact encU_range _ b hb
  · exact encU_range _ b hb
  · exact encU_range _ b hb
  · exact encU_range _ b hb
  · exact encU_range _ b hb
  · exact encU_range _ b hb
  · obtain ⟨y, hy, hb⟩ := List.mem_flatten.mp hb
    obtain ⟨z, _, rfl⟩ := List.mem_map.mp hy
    exact encU_range _ b hb

theorem encode15 (w : World) (r : GV) {q : ShT} (hu : SlI .i64 w q r.mem) (h : r.Ok) (hll : r.mem.length ≤ 17592186043904) : ∃ v w', callF Try.prog 15 #[r.arg q] w = some (.tuple #[.slice v.1 v.2.1 v.2.2, .int .i64 (if badG r then 1 else 0)], w') ∧ Own w' 5 1 v (bytesV (if badG r then [] else grB r)) ∧ Fr [] w w' ∧ ∀ y ∈ blkOf v, w.heap.size ≤ y := by
  have hq := hu.1
  have fa : Fr [] w (w.alloc (.cells #[.int .i64 r.k, .int .i64 r.grp, .int .i64 r.gen, .slice q.1 q.2.1 q.2.2, .int .i64 r.part, .int .i64 r.off] 27)) := Fr.alloc _
  have ba := Blk.new w (r.cs q) 27
  change Blk (w.alloc (.cells #[.int .i64 r.k, .int .i64 r.grp, .int .i64 r.gen, .slice q.1 q.2.1 q.2.2, .int .i64 r.part, .int .i64 r.off] 27)) _ _ _ at ba
  obtain ⟨w1, hw1⟩ : ∃ w1, w.alloc (.cells #[.int .i64 r.k, .int .i64 r.grp, .int .i64 r.gen, .slice q.1 q.2.1 q.2.2, .int .i64 r.part, .int .i64 r.off] 27) = w1 := ⟨_, rfl⟩
  rw [hw1] at fa ba
  have ld := ba.ldN (n := 6) rfl
  simp only [GV.cs] at ld
  obtain ⟨w0', e0, f0⟩ := bad34 w1 r (hu.fr3 fa (by simp)) hll
  simp only [GV.arg] at e0
  by_cases hb : badG r
  · rw [if_pos hb, if_pos hb]
    have kb : decide (badG r) = true := by simp [hb]
    refine ⟨(none, 0, 0), w0', g15_call (u0c0 := r.k) (u0c1 := r.grp) (u0c2 := r.gen) (u0c3 := q) (u0c4 := r.part) (u0c5 := r.off) ?_, Own.nil _ _ _, (Fr.mono (Fr.app fa f0) (by have z0_ := Fr.size fa; have z1_ := Fr.size f0; intro y_ hy_ hl_; grind [blkOf])), by simp [blkOf]⟩
    unfold g15
    rw [hw1]
    simp only [ld, e0, kb, obs, asP_pointer, asB_bool, asI_int, asS_string, asSl_slice, asM_map, asTup0, asTup1, asTup2, asTup3, asTup4, asTup5, asTup6, asTup7, asTup8, asTup9, asAgg2, asAgg3, asAgg4, asAgg5, asAgg6, asAgg7, asAgg8, asAgg9, asAgg12, getD0, getD1, getD2, getD3, getD4, getD5, getD6, getD7, getD8, getD9, getD10, getD11, getD12, getD13, getD14, getD15, getD16, getD17, getD18, getD19, Bool.not_true, Bool.not_false, Bool.false_eq_true, Bool.true_eq_false, ↓reduceIte, decide_true, decide_false, Option.isNone_some, Option.isNone_none, Option.isSome_some, Option.isSome_none, beq_self_eq_true, bne_self_eq_false, Bool.and_true, Bool.true_and, Bool.and_false, Bool.false_and, not_true_eq_false, not_false_eq_true]
  · rw [if_neg hb, if_neg hb]
    have kb : decide (badG r) = false := by simp [hb]
    have hb' : ¬ 8 < r.mem.length := by unfold badG at hb; omega
    have fa1 := fa
    have ba1 := ba
    have fa : Fr [] w w0' := (Fr.mono (Fr.app fa1 f0) (by have z0_ := Fr.size fa1; have z1_ := Fr.size f0; intro y_ hy_ hl_; grind [blkOf]))
    have ba := ba1.fr f0 (by simp)
    obtain ⟨w2, e2, W2, f2⟩ := new50 w0'
    have b2 := ba.fr f2 (by simp)
    have d0 : w2.cell? ⟨w.heap.size, 0, none⟩ = some (.int .i64 r.k) := b2.cell 0
    have d1 : w2.cell? ⟨w.heap.size, 1, none⟩ = some (.int .i64 r.grp) := b2.cell 1
    have d2 : w2.cell? ⟨w.heap.size, 2, none⟩ = some (.int .i64 r.gen) := b2.cell 2
    have d4 : w2.cell? ⟨w.heap.size, 4, none⟩ = some (.int .i64 r.part) := b2.cell 4
    have d5 : w2.cell? ⟨w.heap.size, 5, none⟩ = some (.int .i64 r.off) := b2.cell 5
    have fl : Fr [] w2 (w2.alloc (.cells #[.int .i64 r.k, .int .i64 r.grp, .int .i64 r.gen, .int .i64 r.part, .int .i64 r.off] 3)) := Fr.alloc _
    have bl := Blk.new w2 (numsV [r.k, r.grp, r.gen, r.part, r.off]) 3
    change Blk (w2.alloc (.cells #[.int .i64 r.k, .int .i64 r.grp, .int .i64 r.gen, .int .i64 r.part, .int .i64 r.off] 3)) _ _ _ at bl
    obtain ⟨w3, hw3⟩ : ∃ w3, w2.alloc (.cells #[.int .i64 r.k, .int .i64 r.grp, .int .i64 r.gen, .int .i64 r.part, .int .i64 r.off] 3) = w3 := ⟨_, rfl⟩
    rw [hw3] at fl bl
    have W3 := W2.fr fl (by simp) (by simp)
    have z1 := fa.size
    have z2 := f2.size
    have z3 := fl.size
    have lz := ba.lt
    have hz : ∀ z ∈ [r.k, r.grp, r.gen, r.part, r.off], -9223372036854775808 ≤ z ∧ z ≤ 9223372036854775807 := by
      intro z hz
      simp only [List.mem_cons, List.not_mem_nil, or_false] at hz
      rcases hz with rfl | rfl | rfl | rfl | rfl
      · exact h.k
      · exact h.grp
      · exact h.gen
      · exact h.part
      · exact h.off
    obtain ⟨t, w4, g1, rfl, q4, W4, f4, n4⟩ := loopS_countX 0 (b := g15_l23_b (.pointer (some ⟨w0'.heap.size, 0, none⟩), w2) (some ⟨w0'.heap.size, 0, none⟩) w)
      (I := fun k s x => s = (k : Int) ∧ ∃ q4, Wr x w0'.heap.size w0'.heap.size q4 ((([r.k, r.grp, r.gen, r.part, r.off].take k).map encI).flatten) ∧ Fr (w0'.heap.size :: blkOf (none, 0, 0)) w3 x ∧ ∀ y ∈ blkOf q4, y ∈ blkOf (none, 0, 0) ∨ w3.heap.size ≤ y) (n := 5)
      (fun k s x hk ⟨hs, q4, W4, f4, n4⟩ => by
        subst hs
        have hl4 : [r.k, r.grp, r.gen, r.part, r.off].length = 5 := rfl
        have hne : w2.heap.size ≠ w0'.heap.size := by have := W2.blk.lt; omega
        have b4 := bl.fr f4 (by simp [blkOf]; omega)
        obtain ⟨a, i1, cc⟩ := (lit_sl b4).get (i := k) (by simpa using hk)
        have hfl := flat_len ([r.k, r.grp, r.gen, r.part, r.off].take k) (fun z hz' => hz z (List.mem_of_mem_take hz'))
        simp only [List.length_take] at hfl
        obtain ⟨q5, x5, e5, W5, f5, n5⟩ := int51 W4 (hz ([r.k, r.grp, r.gen, r.part, r.off][k]'(by simpa using hk)) (List.getElem_mem _)) (by omega)
        have k0 : decide ((k : Int) < 5) = true := by simp; omega
        have kw := wrap_succ (n := k) (by omega)
        have i1' : idxA (some ⟨w2.heap.size, 0, none⟩) 5 1 (k : Int) = some a := i1
        refine ⟨_, x5, ?_, rfl, q5, ?_, fr_wr (S := []) f4 f5 n4, new_wr f4 n4 n5⟩
        · unfold g15_l23_b
          simp only [k0, i1', cc, e5, kw, obs, asP_pointer, asB_bool, asI_int, asS_string, asSl_slice, asM_map, asTup0, asTup1, asTup2, asTup3, asTup4, asTup5, asTup6, asTup7, asTup8, asTup9, asAgg2, asAgg3, asAgg4, asAgg5, asAgg6, asAgg7, asAgg8, asAgg9, asAgg12, getD0, getD1, getD2, getD3, getD4, getD5, getD6, getD7, getD8, getD9, getD10, getD11, getD12, getD13, getD14, getD15, getD16, getD17, getD18, getD19, Bool.not_true, Bool.not_false, Bool.false_eq_true, Bool.true_eq_false, ↓reduceIte, decide_true, decide_false, Option.isNone_some, Option.isNone_none, Option.isSome_some, Option.isSome_none, beq_self_eq_true, bne_self_eq_false, Bool.and_true, Bool.true_and, Bool.and_false, Bool.false_and, not_true_eq_false, not_false_eq_true]
        · have : (([r.k, r.grp, r.gen, r.part, r.off].take (k + 1)).map encI).flatten = (([r.k, r.grp, r.gen, r.part, r.off].take k).map encI).flatten ++ encI ([r.k, r.grp, r.gen, r.part, r.off][k]'(by simpa using hk)) := by
            rw [List.take_succ_eq_append_getElem (by simpa using hk), List.map_append, List.flatten_append]; simp
          rw [this]; exact W5)
      (fun s x ⟨hs, _⟩ => by subst hs; rfl) (k := 0) (s := 0) (w := w3) (Nat.zero_le _) ⟨rfl, (none, 0, 0), by simpa using W3, Fr.refl _ _, fun y hy => .inl hy⟩
    have hI4 : (([r.k, r.grp, r.gen, r.part, r.off].take 5).map encI).flatten = encI r.k ++ encI r.grp ++ encI r.gen ++ encI r.part ++ encI r.off := by simp
    rw [hI4] at W4
    have hcl := grB_len h (by omega)
    have hcl' : (grB r).length = (encI r.k ++ encI r.grp ++ encI r.gen ++ encI r.part ++ encI r.off).length + (encL r.mem).length := by unfold grB; rw [List.length_append]
    have fresh : ∀ {q' : ShT}, (∀ y ∈ blkOf q', y ∈ blkOf (none, 0, 0) ∨ w3.heap.size ≤ y) → ∀ y ∈ blkOf q', w0'.heap.size ≤ y := fun hn y hy => by
      rcases hn y hy with hh | hh
      · simp [blkOf] at hh
      · omega
    have b5 := (b2.fr fl (by simp)).fr f4 (by simp [blkOf]; omega)
    have e35 : w4.cell? ⟨w.heap.size, 3, none⟩ = some (.slice q.1 q.2.1 q.2.2) := b5.cell 3
    have hlt : 0 < q.2.1 → ∀ y ∈ blkOf q, y < w.heap.size := fun h0 y hy => hu.slC.lt (by simp; omega) y hy
    have F35 : Fr [] w w3 := (Fr.mono (Fr.app (Fr.app fa f2) fl) (by have z0_ := Fr.size fa; have z1_ := Fr.size f2; have z2_ := Fr.size fl; intro y_ hy_ hl_; grind [blkOf]))
    have hu5 : SlI .i64 w4 q r.mem := (hu.fr3 F35 (by simp)).fr3 f4 (fun h0 y hy hm => by have := hlt h0 y hy; simp [blkOf] at hm; omega)
    obtain ⟨q6, w6, e6, W6, f6, n6⟩ := ints53 W4 hu5 (fun h0 y hy => ⟨by have := hlt h0 y hy; omega, fun hm => by have := hlt h0 y hy; have := fresh n4 y hm; omega⟩) h.mem (by omega) (by omega)
    have F6 := fr_wr (S := []) f4 f6 n4
    obtain ⟨q8, w8, e8, o8, f8, n8⟩ := out55 W6 (by rw [List.length_append]; omega)
    have F37 : Fr [] w w6 := (F35.app F6).mono (by intro y hy hl; simp [blkOf] at hy; omega)
    refine ⟨q8, w8, g15_call (u0c0 := r.k) (u0c1 := r.grp) (u0c2 := r.gen) (u0c3 := q) (u0c4 := r.part) (u0c5 := r.off) ?_, o8, (Fr.mono (Fr.app F37 f8) (by have z0_ := Fr.size F37; have z1_ := Fr.size f8; intro y_ hy_ hl_; grind [blkOf])), fun y hy => by have := n8 y hy; have := F37.size; omega⟩
    unfold g15
    rw [hw1]
    simp only [ld, e0, kb, addr_add, Nat.zero_add, e2, d0, d1, d2, d4, d5, obs, asP_pointer, asB_bool, asI_int, asS_string, asSl_slice, asM_map, asTup0, asTup1, asTup2, asTup3, asTup4, asTup5, asTup6, asTup7, asTup8, asTup9, asAgg2, asAgg3, asAgg4, asAgg5, asAgg6, asAgg7, asAgg8, asAgg9, asAgg12, getD0, getD1, getD2, getD3, getD4, getD5, getD6, getD7, getD8, getD9, getD10, getD11, getD12, getD13, getD14, getD15, getD16, getD17, getD18, getD19, Bool.not_true, Bool.not_false, Bool.false_eq_true, Bool.true_eq_false, ↓reduceIte, decide_true, decide_false, Option.isNone_some, Option.isNone_none, Option.isSome_some, Option.isSome_none, beq_self_eq_true, bne_self_eq_false, Bool.and_true, Bool.true_and, Bool.and_false, Bool.false_and, not_true_eq_false, not_false_eq_true]
    rw [hw3, g15_l23_x0_of g1]
    unfold g15_l23_x0
    simp only [addr_add, Nat.zero_add, e35, e6, e8, obs, asP_pointer, asB_bool, asI_int, asS_string, asSl_slice, asM_map, asTup0, asTup1, asTup2, asTup3, asTup4, asTup5, asTup6, asTup7, asTup8, asTup9, asAgg2, asAgg3, asAgg4, asAgg5, asAgg6, asAgg7, asAgg8, asAgg9, asAgg12, getD0, getD1, getD2, getD3, getD4, getD5, getD6, getD7, getD8, getD9, getD10, getD11, getD12, getD13, getD14, getD15, getD16, getD17, getD18, getD19, Bool.not_true, Bool.not_false, Bool.false_eq_true, Bool.true_eq_false, ↓reduceIte, decide_true, decide_false, Option.isNone_some, Option.isNone_none, Option.isSome_some, Option.isSome_none, beq_self_eq_true, bne_self_eq_false, Bool.and_true, Bool.true_and, Bool.and_false, Bool.false_and, not_true_eq_false, not_false_eq_true]

theorem docenc12 (w : World) (r : GV) {q : ShT} (hu : SlI .i64 w q r.mem) (h : r.Ok) (hll : r.mem.length ≤ 17592186043904) : ∃ v w', callF Try.prog 12 #[r.arg q] w = some (.tuple #[.slice v.1 v.2.1 v.2.2, .int .i64 (if badG r then 1 else 0)], w') ∧ Own w' 5 1 v (bytesV (if badG r then [] else grB r)) ∧ Fr [] w w' ∧ ∀ y ∈ blkOf v, w.heap.size ≤ y := by
  have hq := hu.1
  have fa : Fr [] w (w.alloc (.cells #[.int .i64 r.k, .int .i64 r.grp, .int .i64 r.gen, .slice q.1 q.2.1 q.2.2, .int .i64 r.part, .int .i64 r.off] 27)) := Fr.alloc _
  have ba := Blk.new w (r.cs q) 27
  change Blk (w.alloc (.cells #[.int .i64 r.k, .int .i64 r.grp, .int .i64 r.gen, .slice q.1 q.2.1 q.2.2, .int .i64 r.part, .int .i64 r.off] 27)) _ _ _ at ba
  obtain ⟨w1, hw1⟩ : ∃ w1, w.alloc (.cells #[.int .i64 r.k, .int .i64 r.grp, .int .i64 r.gen, .slice q.1 q.2.1 q.2.2, .int .i64 r.part, .int .i64 r.off] 27) = w1 := ⟨_, rfl⟩
  rw [hw1] at fa ba
  have ld := ba.ldN (n := 6) rfl
  simp only [GV.cs] at ld
  obtain ⟨w2, e2, f2⟩ := bad28 w1 r (hu.fr3 fa (by simp)) hll
  simp only [GV.arg] at e2
  by_cases hb : badG r
  · rw [if_pos hb, if_pos hb]
    have kb : decide (badG r) = true := by simp [hb]
    refine ⟨(none, 0, 0), w2, g12_call (u0c0 := r.k) (u0c1 := r.grp) (u0c2 := r.gen) (u0c3 := q) (u0c4 := r.part) (u0c5 := r.off) ?_, Own.nil _ _ _, (Fr.mono (Fr.app fa f2) (by have z0_ := Fr.size fa; have z1_ := Fr.size f2; intro y_ hy_ hl_; grind [blkOf])), by simp [blkOf]⟩
    unfold g12
    rw [hw1]
    simp only [ld, e2, kb, obs, asP_pointer, asB_bool, asI_int, asS_string, asSl_slice, asM_map, asTup0, asTup1, asTup2, asTup3, asTup4, asTup5, asTup6, asTup7, asTup8, asTup9, asAgg2, asAgg3, asAgg4, asAgg5, asAgg6, asAgg7, asAgg8, asAgg9, asAgg12, getD0, getD1, getD2, getD3, getD4, getD5, getD6, getD7, getD8, getD9, getD10, getD11, getD12, getD13, getD14, getD15, getD16, getD17, getD18, getD19, Bool.not_true, Bool.not_false, Bool.false_eq_true, Bool.true_eq_false, ↓reduceIte, decide_true, decide_false, Option.isNone_some, Option.isNone_none, Option.isSome_some, Option.isSome_none, beq_self_eq_true, bne_self_eq_false, Bool.and_true, Bool.true_and, Bool.and_false, Bool.false_and, not_true_eq_false, not_false_eq_true]
  · rw [if_neg hb, if_neg hb]
    have kb : decide (badG r) = false := by simp [hb]
    have hb' : ¬ 8 < r.mem.length := by unfold badG at hb; omega
    have lk := encI_len h.k
    have lt := encI_len h.grp
    have li := encI_len h.gen
    have le := encI_len h.part
    have lp := encI_len h.off
    have ll := encL_len h.mem (by omega)
    have F2 : Fr [] w w2 := (Fr.mono (Fr.app fa f2) (by have z0_ := Fr.size fa; have z1_ := Fr.size f2; intro y_ hy_ hl_; grind [blkOf]))
    have B2 := ba.fr f2 (by simp)
    have c0 : w2.cell? ⟨w.heap.size, 0, none⟩ = some (.int .i64 r.k) := B2.cell 0
    obtain ⟨v3, w3, e3, o3, f3, n3⟩ := int41 w2 h.k
    have B3 := B2.fr f3 (by simp)
    have c1 : w3.cell? ⟨w.heap.size, 1, none⟩ = some (.int .i64 r.grp) := B3.cell 1
    obtain ⟨v4, w4, e4, o4, f4, n4⟩ := int41 w3 h.grp
    -- one more piece
    have step : ∀ {x y : World} {v u : ShT} {xs ys : List Int}, Own x 5 1 v (bytesV xs) → (∀ z ∈ blkOf v, w.heap.size < z) → Fr [] w x → Fr [] x y → Own y 5 1 u (bytesV ys) → xs.length ≤ 100000000000 → ys.length ≤ 100000000000 → Blk x w.heap.size (r.cs q) 27 →
        ∃ v' y', callB Try.prog .append #[28, 28] 28 #[false, false] #[.slice v.1 v.2.1 v.2.2, .slice u.1 u.2.1 u.2.2] y = some (.slice v'.1 v'.2.1 v'.2.2, y') ∧ Own y' 5 1 v' (bytesV (xs ++ ys)) ∧ (∀ z ∈ blkOf v', w.heap.size < z) ∧ Fr [] w y' ∧ Blk y' w.heap.size (r.cs q) 27 := by
      intro x y v u xs ys ox nx fx fxy ou hl1 hl2 bx
      obtain ⟨v', y', e, o, f, n⟩ := puts1 (ox.fr fxy (by simp)) ou (by omega) (by omega)
      have fy : Fr [] w y := (Fr.mono (Fr.app fx fxy) (by have z0_ := Fr.size fx; have z1_ := Fr.size fxy; intro y_ hy_ hl_; grind [blkOf]))
      refine ⟨v', y', e, o, fun z hz => ?_, fr_new fy (fun z hz => by have := nx z hz; omega) f, (bx.fr fxy (by simp)).fr f (fun hm => by have := nx _ hm; omega)⟩
      rcases n z hz with hh | hh
      · exact nx z hh
      · have := (bx.fr fxy (by simp)).lt; omega
    have lB2 := B2.lt
    obtain ⟨v5, w5, e5, o5, n5, f5, B5⟩ := step o3 (fun z hz => by have := n3 z hz; omega) (Fr.mono (Fr.app F2 f3) (by have z0_ := Fr.size F2; have z1_ := Fr.size f3; intro y_ hy_ hl_; grind [blkOf])) f4 o4 (by omega) (by omega) B3
    have c2 : w5.cell? ⟨w.heap.size, 2, none⟩ = some (.int .i64 r.gen) := B5.cell 2
    obtain ⟨v6, w6, e6, o6, f6, n6⟩ := int41 w5 h.gen
    obtain ⟨v7, w7, e7, o7, n7, f7, B7⟩ := step o5 n5 f5 f6 o6 (by simp only [List.length_append]; omega) (by omega) B5
    have c4 : w7.cell? ⟨w.heap.size, 4, none⟩ = some (.int .i64 r.part) := B7.cell 4
    obtain ⟨v8, w8, e8, o8, f8, n8⟩ := int41 w7 h.part
    obtain ⟨v9, w9, e9, o9, n9, f9, B9⟩ := step o7 n7 f7 f8 o8 (by simp only [List.length_append]; omega) (by omega) B7
    have c5 : w9.cell? ⟨w.heap.size, 5, none⟩ = some (.int .i64 r.off) := B9.cell 5
    obtain ⟨v10, w10, e10, o10, f10, n10⟩ := int41 w9 h.off
    obtain ⟨v11, w11, e11, o11, n11, f11, B11⟩ := step o9 n9 f9 f10 o10 (by simp only [List.length_append]; omega) (by omega) B9
    have c3 : w11.cell? ⟨w.heap.size, 3, none⟩ = some (.slice q.1 q.2.1 q.2.2) := B11.cell 3
    obtain ⟨v12, w12, e12, o12, f12, n12⟩ := ints43 (hu.fr3 f11 (by simp)) h.mem (by omega)
    obtain ⟨v13, w13, e13, o13, n13, f13, B13⟩ := step o11 n11 f11 f12 o12 (by simp only [List.length_append]; omega) (by omega) B11
    refine ⟨v13, w13, g12_call (u0c0 := r.k) (u0c1 := r.grp) (u0c2 := r.gen) (u0c3 := q) (u0c4 := r.part) (u0c5 := r.off) ?_, o13, f13, fun y hy => by have := n13 y hy; omega⟩
    unfold g12
    rw [hw1]
    simp only [ld, e2, kb, c0, e3, addr_add, Nat.zero_add, c1, e4, e5, c2, e6, e7, c4, e8, e9, c5, e10, e11, c3, e12, e13, obs, asP_pointer, asB_bool, asI_int, asS_string, asSl_slice, asM_map, asTup0, asTup1, asTup2, asTup3, asTup4, asTup5, asTup6, asTup7, asTup8, asTup9, asAgg2, asAgg3, asAgg4, asAgg5, asAgg6, asAgg7, asAgg8, asAgg9, asAgg12, getD0, getD1, getD2, getD3, getD4, getD5, getD6, getD7, getD8, getD9, getD10, getD11, getD12, getD13, getD14, getD15, getD16, getD17, getD18, getD19, Bool.not_true, Bool.not_false, Bool.false_eq_true, Bool.true_eq_false, ↓reduceIte, decide_true, decide_false, Option.isNone_some, Option.isNone_none, Option.isSome_some, Option.isSome_none, beq_self_eq_true, bne_self_eq_false, Bool.and_true, Bool.true_and, Bool.and_false, Bool.false_and, not_true_eq_false, not_false_eq_true]
end Go.Proofs.Ytcakijeoeankfaa
