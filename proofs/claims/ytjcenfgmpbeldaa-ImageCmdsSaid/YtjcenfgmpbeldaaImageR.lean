/-
  ImageR: lemmas on what Go functions of this seat come to (for whatever arguments, as each says). No condition but those that stand in each lemma.
-/
import Derived.Test.YtjcenfgmpbeldaaImageQ
namespace Go.Proofs.Ytjcenfgmpbeldaa
open Go Go.Ev
set_option maxRecDepth 100000
set_option linter.unusedVariables false
set_option linter.unusedSimpArgs false

theorem encI_len {z : Int} (h : -9223372036854775808 ≤ z ∧ z ≤ 9223372036854775807) : (encI z).length ≤ 10 := encU_len10 (zig_lt h)
theorem encL_len {l : List Int} (h : ∀ z ∈ l, -9223372036854775808 ≤ z ∧ z ≤ 9223372036854775807) (hl : l.length ≤ 17592186043904) : (encL l).length ≤ 10 + 10 * l.length := by
  have h1 := encU_len10 (n := l.length) (by omega)
  have h2 := flat_len l h
  unfold encL
  rw [List.length_append]; omega
theorem cmdB_len {r : CV} (h : r.Ok) (hl : r.ls.length ≤ 17592186043904) : (cmdB r).length ≤ 60 + 10 * r.ls.length := by
  have h1 := encI_len h.k
  have h2 := encI_len h.nd
  have h3 := encI_len h.pt
  have h4 := encI_len h.ep
  have h5 := encI_len h.vr
  have h6 := encL_len h.ls hl
  unfold cmdB
  simp only [List.length_append]
  omega
theorem cmdB_range (r : CV) : ∀ b ∈ cmdB r, 0 ≤ b ∧ b ≤ 255 := by
  intro b hb
  unfold cmdB encI encL at hb
  simp only [List.mem_append] at hb
  rcases hb with ((((hb | hb) | hb) | hb) | hb) | hb | hb
  · exact encU_range _ b hb
  · exact encU_range _ b hb
  · exact encU_range _ b hb
  · exact encU_range _ b hb
  · exact encU_range _ b hb
  · exact encU_range _ b hb
  · obtain ⟨y, hy, hb⟩ := List.mem_flatten.mp hb
    obtain ⟨z, _, rfl⟩ := List.mem_map.mp hy
    exact encU_range _ b hb

theorem encode27 (w : World) (r : CV) {q : ShT} (hu : SlI .i64 w q r.ls) (h : r.Ok) : ∃ v w', callF Try.prog 27 #[r.arg q] w = some (.tuple #[.slice v.1 v.2.1 v.2.2, .int .i64 (if badC r then 1 else 0)], w') ∧ Own w' 5 1 v (bytesV (if badC r then [] else cmdB r)) ∧ Fr [] w w' ∧ ∀ y ∈ blkOf v, w.heap.size ≤ y := by
  have hq := hu.1
  have fa : Fr [] w (w.alloc (.cells #[.int .i64 r.k, .int .i64 r.nd, .int .i64 r.pt, .int .i64 r.ep, .int .i64 r.vr, .slice q.1 q.2.1 q.2.2] 33)) := Fr.alloc _
  have ba := Blk.new w (r.cs q) 33
  change Blk (w.alloc (.cells #[.int .i64 r.k, .int .i64 r.nd, .int .i64 r.pt, .int .i64 r.ep, .int .i64 r.vr, .slice q.1 q.2.1 q.2.2] 33)) _ _ _ at ba
  obtain ⟨w1, hw1⟩ : ∃ w1, w.alloc (.cells #[.int .i64 r.k, .int .i64 r.nd, .int .i64 r.pt, .int .i64 r.ep, .int .i64 r.vr, .slice q.1 q.2.1 q.2.2] 33) = w1 := ⟨_, rfl⟩
  rw [hw1] at fa ba
  have c0 : w1.cell? ⟨w.heap.size, 0, none⟩ = some (.int .i64 r.k) := ba.cell 0
  have c5 : w1.cell? ⟨w.heap.size, 5, none⟩ = some (.slice q.1 q.2.1 q.2.2) := ba.cell 5
  have bad : badC r → g27 r.k r.nd r.pt r.ep r.vr q w = some (.tuple #[.slice none 0 0, .int .i64 1], w1) := by
    intro hb
    unfold g27
    rw [hw1]
    by_cases h1 : r.k < 1
    · have k1 : decide (r.k < 1) = true := by simp [h1]
      simp only [c0, k1, obs, asP_pointer, asB_bool, asI_int, asS_string, asSl_slice, asM_map, asTup0, asTup1, asTup2, asTup3, asTup4, asTup5, asTup6, asTup7, asTup8, asTup9, asAgg2, asAgg3, asAgg4, asAgg5, asAgg6, asAgg7, asAgg8, asAgg9, asAgg12, getD0, getD1, getD2, getD3, getD4, getD5, getD6, getD7, getD8, getD9, getD10, getD11, getD12, getD13, getD14, getD15, getD16, getD17, getD18, getD19, Bool.not_true, Bool.not_false, Bool.false_eq_true, Bool.true_eq_false, ↓reduceIte, decide_true, decide_false, Option.isNone_some, Option.isNone_none, Option.isSome_some, Option.isSome_none, beq_self_eq_true, bne_self_eq_false, Bool.and_true, Bool.true_and, Bool.and_false, Bool.false_and, not_true_eq_false, not_false_eq_true]
    · have k1 : decide (r.k < 1) = false := by simp; omega
      by_cases h2 : 5 < r.k
      · have k2 : decide (r.k > 5) = true := by simp [h2]
        simp only [c0, k1, k2, obs, asP_pointer, asB_bool, asI_int, asS_string, asSl_slice, asM_map, asTup0, asTup1, asTup2, asTup3, asTup4, asTup5, asTup6, asTup7, asTup8, asTup9, asAgg2, asAgg3, asAgg4, asAgg5, asAgg6, asAgg7, asAgg8, asAgg9, asAgg12, getD0, getD1, getD2, getD3, getD4, getD5, getD6, getD7, getD8, getD9, getD10, getD11, getD12, getD13, getD14, getD15, getD16, getD17, getD18, getD19, Bool.not_true, Bool.not_false, Bool.false_eq_true, Bool.true_eq_false, ↓reduceIte, decide_true, decide_false, Option.isNone_some, Option.isNone_none, Option.isSome_some, Option.isSome_none, beq_self_eq_true, bne_self_eq_false, Bool.and_true, Bool.true_and, Bool.and_false, Bool.false_and, not_true_eq_false, not_false_eq_true]
      · have k2 : decide (r.k > 5) = false := by simp; omega
        have k5 : decide ((q.2.1 : Int) > 5) = true := by unfold badC at hb; simp; omega
        simp only [c0, k1, k2, addr_add, Nat.zero_add, c5, k5, obs, asP_pointer, asB_bool, asI_int, asS_string, asSl_slice, asM_map, asTup0, asTup1, asTup2, asTup3, asTup4, asTup5, asTup6, asTup7, asTup8, asTup9, asAgg2, asAgg3, asAgg4, asAgg5, asAgg6, asAgg7, asAgg8, asAgg9, asAgg12, getD0, getD1, getD2, getD3, getD4, getD5, getD6, getD7, getD8, getD9, getD10, getD11, getD12, getD13, getD14, getD15, getD16, getD17, getD18, getD19, Bool.not_true, Bool.not_false, Bool.false_eq_true, Bool.true_eq_false, ↓reduceIte, decide_true, decide_false, Option.isNone_some, Option.isNone_none, Option.isSome_some, Option.isSome_none, beq_self_eq_true, bne_self_eq_false, Bool.and_true, Bool.true_and, Bool.and_false, Bool.false_and, not_true_eq_false, not_false_eq_true]
  by_cases hb : badC r
  · rw [if_pos hb, if_pos hb]
    exact ⟨(none, 0, 0), w1, g27_call (bad hb), Own.nil _ _ _, fa, by simp [blkOf]⟩
  · rw [if_neg hb, if_neg hb]
    have hb' : ¬ r.k < 1 ∧ ¬ 5 < r.k ∧ ¬ 5 < r.ls.length := by unfold badC at hb; omega
    have k1 : decide (r.k < 1) = false := by simp; omega
    have k2 : decide (r.k > 5) = false := by simp; omega
    have k5 : decide ((q.2.1 : Int) > 5) = false := by simp; omega
    obtain ⟨w2, e2, W2, f2⟩ := new50 w1
    have b2 := ba.fr f2 (by simp)
    have d0 : w2.cell? ⟨w.heap.size, 0, none⟩ = some (.int .i64 r.k) := b2.cell 0
    have d1 : w2.cell? ⟨w.heap.size, 1, none⟩ = some (.int .i64 r.nd) := b2.cell 1
    have d2 : w2.cell? ⟨w.heap.size, 2, none⟩ = some (.int .i64 r.pt) := b2.cell 2
    have d3 : w2.cell? ⟨w.heap.size, 3, none⟩ = some (.int .i64 r.ep) := b2.cell 3
    have d4 : w2.cell? ⟨w.heap.size, 4, none⟩ = some (.int .i64 r.vr) := b2.cell 4
    have fl : Fr [] w2 (w2.alloc (.cells #[.int .i64 r.k, .int .i64 r.nd, .int .i64 r.pt, .int .i64 r.ep, .int .i64 r.vr] 3)) := Fr.alloc _
    have bl := Blk.new w2 (numsV [r.k, r.nd, r.pt, r.ep, r.vr]) 3
    change Blk (w2.alloc (.cells #[.int .i64 r.k, .int .i64 r.nd, .int .i64 r.pt, .int .i64 r.ep, .int .i64 r.vr] 3)) _ _ _ at bl
    obtain ⟨w3, hw3⟩ : ∃ w3, w2.alloc (.cells #[.int .i64 r.k, .int .i64 r.nd, .int .i64 r.pt, .int .i64 r.ep, .int .i64 r.vr] 3) = w3 := ⟨_, rfl⟩
    rw [hw3] at fl bl
    have W3 := W2.fr fl (by simp) (by simp)
    have z1 := fa.size
    have z2 := f2.size
    have z3 := fl.size
    have lz := ba.lt
    have hz : ∀ z ∈ [r.k, r.nd, r.pt, r.ep, r.vr], -9223372036854775808 ≤ z ∧ z ≤ 9223372036854775807 := by
      intro z hz
      simp only [List.mem_cons, List.not_mem_nil, or_false] at hz
      rcases hz with rfl | rfl | rfl | rfl | rfl
      · exact h.k
      · exact h.nd
      · exact h.pt
      · exact h.ep
      · exact h.vr
    obtain ⟨t, w4, g1, rfl, q4, W4, f4, n4⟩ := loopS_countX 0 (b := g27_l21_b (.pointer (some ⟨w1.heap.size, 0, none⟩), w2) (some ⟨w1.heap.size, 0, none⟩) w)
      (I := fun k s x => s = (k : Int) ∧ ∃ q4, Wr x w1.heap.size w1.heap.size q4 ((([r.k, r.nd, r.pt, r.ep, r.vr].take k).map encI).flatten) ∧ Fr (w1.heap.size :: blkOf (none, 0, 0)) w3 x ∧ ∀ y ∈ blkOf q4, y ∈ blkOf (none, 0, 0) ∨ w3.heap.size ≤ y) (n := 5)
      (fun k s x hk ⟨hs, q4, W4, f4, n4⟩ => by
        subst hs
        have hl4 : [r.k, r.nd, r.pt, r.ep, r.vr].length = 5 := rfl
        have hne : w2.heap.size ≠ w1.heap.size := by have := W2.blk.lt; omega
        have b4 := bl.fr f4 (by simp [blkOf]; omega)
        obtain ⟨a, i1, cc⟩ := (lit_sl b4).get (i := k) (by simpa using hk)
        have hfl := flat_len ([r.k, r.nd, r.pt, r.ep, r.vr].take k) (fun z hz' => hz z (List.mem_of_mem_take hz'))
        simp only [List.length_take] at hfl
        obtain ⟨q5, x5, e5, W5, f5, n5⟩ := int51 W4 (hz ([r.k, r.nd, r.pt, r.ep, r.vr][k]'(by simpa using hk)) (List.getElem_mem _)) (by omega)
        have k0 : decide ((k : Int) < 5) = true := by simp; omega
        have kw := wrap_succ (n := k) (by omega)
        have i1' : idxA (some ⟨w2.heap.size, 0, none⟩) 5 1 (k : Int) = some a := i1
        refine ⟨_, x5, ?_, rfl, q5, ?_, fr_wr (S := []) f4 f5 n4, new_wr f4 n4 n5⟩
        · unfold g27_l21_b
          simp only [k0, i1', cc, e5, kw, obs, asP_pointer, asB_bool, asI_int, asS_string, asSl_slice, asM_map, asTup0, asTup1, asTup2, asTup3, asTup4, asTup5, asTup6, asTup7, asTup8, asTup9, asAgg2, asAgg3, asAgg4, asAgg5, asAgg6, asAgg7, asAgg8, asAgg9, asAgg12, getD0, getD1, getD2, getD3, getD4, getD5, getD6, getD7, getD8, getD9, getD10, getD11, getD12, getD13, getD14, getD15, getD16, getD17, getD18, getD19, Bool.not_true, Bool.not_false, Bool.false_eq_true, Bool.true_eq_false, ↓reduceIte, decide_true, decide_false, Option.isNone_some, Option.isNone_none, Option.isSome_some, Option.isSome_none, beq_self_eq_true, bne_self_eq_false, Bool.and_true, Bool.true_and, Bool.and_false, Bool.false_and, not_true_eq_false, not_false_eq_true]
        · have : (([r.k, r.nd, r.pt, r.ep, r.vr].take (k + 1)).map encI).flatten = (([r.k, r.nd, r.pt, r.ep, r.vr].take k).map encI).flatten ++ encI ([r.k, r.nd, r.pt, r.ep, r.vr][k]'(by simpa using hk)) := by
            rw [List.take_succ_eq_append_getElem (by simpa using hk), List.map_append, List.flatten_append]; simp
          rw [this]; exact W5)
      (fun s x ⟨hs, _⟩ => by subst hs; rfl) (k := 0) (s := 0) (w := w3) (Nat.zero_le _) ⟨rfl, (none, 0, 0), by simpa using W3, Fr.refl _ _, fun y hy => .inl hy⟩
    have hI4 : (([r.k, r.nd, r.pt, r.ep, r.vr].take 5).map encI).flatten = encI r.k ++ encI r.nd ++ encI r.pt ++ encI r.ep ++ encI r.vr := by simp
    rw [hI4] at W4
    have hcl := cmdB_len h (by omega)
    have hcl' : (cmdB r).length = (encI r.k ++ encI r.nd ++ encI r.pt ++ encI r.ep ++ encI r.vr).length + (encL r.ls).length := by unfold cmdB; rw [List.length_append]
    have fresh : ∀ {q' : ShT}, (∀ y ∈ blkOf q', y ∈ blkOf (none, 0, 0) ∨ w3.heap.size ≤ y) → ∀ y ∈ blkOf q', w1.heap.size ≤ y := fun hn y hy => by
      rcases hn y hy with hh | hh
      · simp [blkOf] at hh
      · omega
    have b5 := (b2.fr fl (by simp)).fr f4 (by simp [blkOf]; omega)
    have e35 : w4.cell? ⟨w.heap.size, 5, none⟩ = some (.slice q.1 q.2.1 q.2.2) := b5.cell 5
    have hlt : 0 < q.2.1 → ∀ y ∈ blkOf q, y < w.heap.size := fun h0 y hy => hu.slC.lt (by simp; omega) y hy
    have F35 : Fr [] w w3 := (Fr.mono (Fr.app (Fr.app fa f2) fl) (by have z0_ := Fr.size fa; have z1_ := Fr.size f2; have z2_ := Fr.size fl; intro y_ hy_ hl_; grind [blkOf]))
    have hu5 : SlI .i64 w4 q r.ls := (hu.fr3 F35 (by simp)).fr3 f4 (fun h0 y hy hm => by have := hlt h0 y hy; simp [blkOf] at hm; omega)
    obtain ⟨q6, w6, e6, W6, f6, n6⟩ := ints53 W4 hu5 (fun h0 y hy => ⟨by have := hlt h0 y hy; omega, fun hm => by have := hlt h0 y hy; have := fresh n4 y hm; omega⟩) h.ls (by omega) (by omega)
    have F6 := fr_wr (S := []) f4 f6 n4
    obtain ⟨q8, w8, e8, o8, f8, n8⟩ := out55 W6 (by rw [List.length_append]; omega)
    have F37 : Fr [] w w6 := (F35.app F6).mono (by intro y hy hl; simp [blkOf] at hy; omega)
    refine ⟨q8, w8, g27_call (u0c0 := r.k) (u0c1 := r.nd) (u0c2 := r.pt) (u0c3 := r.ep) (u0c4 := r.vr) (u0c5 := q) ?_, o8, (Fr.mono (Fr.app F37 f8) (by have z0_ := Fr.size F37; have z1_ := Fr.size f8; intro y_ hy_ hl_; grind [blkOf])), fun y hy => by have := n8 y hy; have := F37.size; omega⟩
    unfold g27
    rw [hw1]
    simp only [c0, k1, k2, addr_add, Nat.zero_add, c5, k5, e2, d0, d1, d2, d3, d4, obs, asP_pointer, asB_bool, asI_int, asS_string, asSl_slice, asM_map, asTup0, asTup1, asTup2, asTup3, asTup4, asTup5, asTup6, asTup7, asTup8, asTup9, asAgg2, asAgg3, asAgg4, asAgg5, asAgg6, asAgg7, asAgg8, asAgg9, asAgg12, getD0, getD1, getD2, getD3, getD4, getD5, getD6, getD7, getD8, getD9, getD10, getD11, getD12, getD13, getD14, getD15, getD16, getD17, getD18, getD19, Bool.not_true, Bool.not_false, Bool.false_eq_true, Bool.true_eq_false, ↓reduceIte, decide_true, decide_false, Option.isNone_some, Option.isNone_none, Option.isSome_some, Option.isSome_none, beq_self_eq_true, bne_self_eq_false, Bool.and_true, Bool.true_and, Bool.and_false, Bool.false_and, not_true_eq_false, not_false_eq_true]
    rw [hw3, g27_l21_x0_of g1]
    unfold g27_l21_x0
    simp only [addr_add, Nat.zero_add, e35, e6, e8, obs, asP_pointer, asB_bool, asI_int, asS_string, asSl_slice, asM_map, asTup0, asTup1, asTup2, asTup3, asTup4, asTup5, asTup6, asTup7, asTup8, asTup9, asAgg2, asAgg3, asAgg4, asAgg5, asAgg6, asAgg7, asAgg8, asAgg9, asAgg12, getD0, getD1, getD2, getD3, getD4, getD5, getD6, getD7, getD8, getD9, getD10, getD11, getD12, getD13, getD14, getD15, getD16, getD17, getD18, getD19, Bool.not_true, Bool.not_false, Bool.false_eq_true, Bool.true_eq_false, ↓reduceIte, decide_true, decide_false, Option.isNone_some, Option.isNone_none, Option.isSome_some, Option.isSome_none, beq_self_eq_true, bne_self_eq_false, Bool.and_true, Bool.true_and, Bool.and_false, Bool.false_and, not_true_eq_false, not_false_eq_true]

theorem docenc25 (w : World) (r : CV) {q : ShT} (hu : SlI .i64 w q r.ls) (h : r.Ok) : ∃ v w', callF Try.prog 25 #[r.arg q] w = some (.tuple #[.slice v.1 v.2.1 v.2.2, .int .i64 (if badC r then 1 else 0)], w') ∧ Own w' 5 1 v (bytesV (if badC r then [] else cmdB r)) ∧ Fr [] w w' ∧ ∀ y ∈ blkOf v, w.heap.size ≤ y := by
  have hq := hu.1
  have fa : Fr [] w (w.alloc (.cells #[.int .i64 r.k, .int .i64 r.nd, .int .i64 r.pt, .int .i64 r.ep, .int .i64 r.vr, .slice q.1 q.2.1 q.2.2] 33)) := Fr.alloc _
  have ba := Blk.new w (r.cs q) 33
  change Blk (w.alloc (.cells #[.int .i64 r.k, .int .i64 r.nd, .int .i64 r.pt, .int .i64 r.ep, .int .i64 r.vr, .slice q.1 q.2.1 q.2.2] 33)) _ _ _ at ba
  obtain ⟨w1, hw1⟩ : ∃ w1, w.alloc (.cells #[.int .i64 r.k, .int .i64 r.nd, .int .i64 r.pt, .int .i64 r.ep, .int .i64 r.vr, .slice q.1 q.2.1 q.2.2] 33) = w1 := ⟨_, rfl⟩
  rw [hw1] at fa ba
  have c0 : w1.cell? ⟨w.heap.size, 0, none⟩ = some (.int .i64 r.k) := ba.cell 0
  have c1 : w1.cell? ⟨w.heap.size, 1, none⟩ = some (.int .i64 r.nd) := ba.cell 1
  have c2 : w1.cell? ⟨w.heap.size, 2, none⟩ = some (.int .i64 r.pt) := ba.cell 2
  have c3 : w1.cell? ⟨w.heap.size, 3, none⟩ = some (.int .i64 r.ep) := ba.cell 3
  have c4 : w1.cell? ⟨w.heap.size, 4, none⟩ = some (.int .i64 r.vr) := ba.cell 4
  have c5 : w1.cell? ⟨w.heap.size, 5, none⟩ = some (.slice q.1 q.2.1 q.2.2) := ba.cell 5
  have bad : badC r → g25 r.k r.nd r.pt r.ep r.vr q w = some (.tuple #[.slice none 0 0, .int .i64 1], w1) := by
    intro hb
    unfold g25
    rw [hw1]
    by_cases h1 : r.k < 1
    · have k1 : decide (r.k < 1) = true := by simp [h1]
      simp only [c0, k1, obs, asP_pointer, asB_bool, asI_int, asS_string, asSl_slice, asM_map, asTup0, asTup1, asTup2, asTup3, asTup4, asTup5, asTup6, asTup7, asTup8, asTup9, asAgg2, asAgg3, asAgg4, asAgg5, asAgg6, asAgg7, asAgg8, asAgg9, asAgg12, getD0, getD1, getD2, getD3, getD4, getD5, getD6, getD7, getD8, getD9, getD10, getD11, getD12, getD13, getD14, getD15, getD16, getD17, getD18, getD19, Bool.not_true, Bool.not_false, Bool.false_eq_true, Bool.true_eq_false, ↓reduceIte, decide_true, decide_false, Option.isNone_some, Option.isNone_none, Option.isSome_some, Option.isSome_none, beq_self_eq_true, bne_self_eq_false, Bool.and_true, Bool.true_and, Bool.and_false, Bool.false_and, not_true_eq_false, not_false_eq_true]
    · have k1 : decide (r.k < 1) = false := by simp; omega
      by_cases h2 : 5 < r.k
      · have k2 : decide (r.k > 5) = true := by simp [h2]
        simp only [c0, k1, k2, obs, asP_pointer, asB_bool, asI_int, asS_string, asSl_slice, asM_map, asTup0, asTup1, asTup2, asTup3, asTup4, asTup5, asTup6, asTup7, asTup8, asTup9, asAgg2, asAgg3, asAgg4, asAgg5, asAgg6, asAgg7, asAgg8, asAgg9, asAgg12, getD0, getD1, getD2, getD3, getD4, getD5, getD6, getD7, getD8, getD9, getD10, getD11, getD12, getD13, getD14, getD15, getD16, getD17, getD18, getD19, Bool.not_true, Bool.not_false, Bool.false_eq_true, Bool.true_eq_false, ↓reduceIte, decide_true, decide_false, Option.isNone_some, Option.isNone_none, Option.isSome_some, Option.isSome_none, beq_self_eq_true, bne_self_eq_false, Bool.and_true, Bool.true_and, Bool.and_false, Bool.false_and, not_true_eq_false, not_false_eq_true]
      · have k2 : decide (r.k > 5) = false := by simp; omega
        have k5 : decide ((q.2.1 : Int) > 5) = true := by unfold badC at hb; simp; omega
        simp only [c0, k1, k2, addr_add, Nat.zero_add, c5, k5, obs, asP_pointer, asB_bool, asI_int, asS_string, asSl_slice, asM_map, asTup0, asTup1, asTup2, asTup3, asTup4, asTup5, asTup6, asTup7, asTup8, asTup9, asAgg2, asAgg3, asAgg4, asAgg5, asAgg6, asAgg7, asAgg8, asAgg9, asAgg12, getD0, getD1, getD2, getD3, getD4, getD5, getD6, getD7, getD8, getD9, getD10, getD11, getD12, getD13, getD14, getD15, getD16, getD17, getD18, getD19, Bool.not_true, Bool.not_false, Bool.false_eq_true, Bool.true_eq_false, ↓reduceIte, decide_true, decide_false, Option.isNone_some, Option.isNone_none, Option.isSome_some, Option.isSome_none, beq_self_eq_true, bne_self_eq_false, Bool.and_true, Bool.true_and, Bool.and_false, Bool.false_and, not_true_eq_false, not_false_eq_true]
  by_cases hb : badC r
  · rw [if_pos hb, if_pos hb]
    exact ⟨(none, 0, 0), w1, g25_call (bad hb), Own.nil _ _ _, fa, by simp [blkOf]⟩
  · rw [if_neg hb, if_neg hb]
    have hb' : ¬ r.k < 1 ∧ ¬ 5 < r.k ∧ ¬ 5 < r.ls.length := by unfold badC at hb; omega
    have k1 : decide (r.k < 1) = false := by simp; omega
    have k2 : decide (r.k > 5) = false := by simp; omega
    have k5 : decide ((q.2.1 : Int) > 5) = false := by simp; omega
    have fl : Fr [] w1 (w1.alloc (.cells #[.int .i64 r.k, .int .i64 r.nd, .int .i64 r.pt, .int .i64 r.ep, .int .i64 r.vr] 3)) := Fr.alloc _
    have bl := Blk.new w1 (numsV [r.k, r.nd, r.pt, r.ep, r.vr]) 3
    change Blk (w1.alloc (.cells #[.int .i64 r.k, .int .i64 r.nd, .int .i64 r.pt, .int .i64 r.ep, .int .i64 r.vr] 3)) _ _ _ at bl
    obtain ⟨w3, hw3⟩ : ∃ w3, w1.alloc (.cells #[.int .i64 r.k, .int .i64 r.nd, .int .i64 r.pt, .int .i64 r.ep, .int .i64 r.vr] 3) = w3 := ⟨_, rfl⟩
    rw [hw3] at fl bl
    have z1 := fa.size
    have z3 := fl.size
    have lz := ba.lt
    have F3 : Fr [] w w3 := (Fr.mono (Fr.app fa fl) (by have z0_ := Fr.size fa; have z1_ := Fr.size fl; intro y_ hy_ hl_; grind [blkOf]))
    have hz : ∀ z ∈ [r.k, r.nd, r.pt, r.ep, r.vr], -9223372036854775808 ≤ z ∧ z ≤ 9223372036854775807 := by
      intro z hz
      simp only [List.mem_cons, List.not_mem_nil, or_false] at hz
      rcases hz with rfl | rfl | rfl | rfl | rfl
      · exact h.k
      · exact h.nd
      · exact h.pt
      · exact h.ep
      · exact h.vr
    obtain ⟨t, w4, g1, v4, rfl, o4, f4, n4⟩ := loopS_countX 0 (b := g25_l19_b w r.k r.nd r.pt r.ep r.vr q)
      (I := fun k s x => ∃ v4 : ShT, s = (v4, (k : Int)) ∧ Own x 5 1 v4 (bytesV ((([r.k, r.nd, r.pt, r.ep, r.vr].take k).map encI).flatten)) ∧ Fr [] w3 x ∧ ∀ y ∈ blkOf v4, w3.heap.size ≤ y) (n := 5)
      (fun k s x hk ⟨v4, hs, o4, f4, n4⟩ => by
        subst hs
        have hl4 : [r.k, r.nd, r.pt, r.ep, r.vr].length = 5 := rfl
        have b4 := bl.fr f4 (by simp)
        obtain ⟨a, i1, cc⟩ := (lit_sl b4).get (i := k) (by simpa using hk)
        have hfl := flat_len ([r.k, r.nd, r.pt, r.ep, r.vr].take k) (fun z hz' => hz z (List.mem_of_mem_take hz'))
        simp only [List.length_take] at hfl
        have hzk := hz ([r.k, r.nd, r.pt, r.ep, r.vr][k]'(by simpa using hk)) (List.getElem_mem _)
        have hel := encI_len hzk
        obtain ⟨v5, x5, e5, o5, f5, n5⟩ := int41 x hzk
        obtain ⟨v6, x6, e6, o6, f6, n6⟩ := puts1 (o4.fr f5 (by simp)) o5 (by omega) (by omega)
        have k0 : decide ((k : Int) < 5) = true := by simp; omega
        have kw := wrap_succ (n := k) (by omega)
        have i1' : idxA (some ⟨(w.alloc (.cells #[.int .i64 r.k, .int .i64 r.nd, .int .i64 r.pt, .int .i64 r.ep, .int .i64 r.vr, .slice q.1 q.2.1 q.2.2] 33)).heap.size, 0, none⟩) 5 1 (k : Int) = some a := by rw [hw1]; exact i1
        have F5 : Fr [] w3 x5 := (Fr.mono (Fr.app f4 f5) (by have z0_ := Fr.size f4; have z1_ := Fr.size f5; intro y_ hy_ hl_; grind [blkOf]))
        refine ⟨_, x6, ?_, v6, rfl, ?_, fr_new F5 n4 f6, fun y hy => ?_⟩
        · unfold g25_l19_b
          simp only [k0, i1', cc, e5, e6, kw, obs, asP_pointer, asB_bool, asI_int, asS_string, asSl_slice, asM_map, asTup0, asTup1, asTup2, asTup3, asTup4, asTup5, asTup6, asTup7, asTup8, asTup9, asAgg2, asAgg3, asAgg4, asAgg5, asAgg6, asAgg7, asAgg8, asAgg9, asAgg12, getD0, getD1, getD2, getD3, getD4, getD5, getD6, getD7, getD8, getD9, getD10, getD11, getD12, getD13, getD14, getD15, getD16, getD17, getD18, getD19, Bool.not_true, Bool.not_false, Bool.false_eq_true, Bool.true_eq_false, ↓reduceIte, decide_true, decide_false, Option.isNone_some, Option.isNone_none, Option.isSome_some, Option.isSome_none, beq_self_eq_true, bne_self_eq_false, Bool.and_true, Bool.true_and, Bool.and_false, Bool.false_and, not_true_eq_false, not_false_eq_true]
        · have : (([r.k, r.nd, r.pt, r.ep, r.vr].take (k + 1)).map encI).flatten = (([r.k, r.nd, r.pt, r.ep, r.vr].take k).map encI).flatten ++ encI ([r.k, r.nd, r.pt, r.ep, r.vr][k]'(by simpa using hk)) := by
            rw [List.take_succ_eq_append_getElem (by simpa using hk), List.map_append, List.flatten_append]; simp
          rw [this]; exact o6
        · have := F5.size
          rcases n6 y hy with hh | hh
          · exact n4 y hh
          · omega)
      (fun s x ⟨v4, hs, _⟩ => by subst hs; rfl) (k := 0) (s := ((none, 0, 0), 0)) (w := w3) (Nat.zero_le _) ⟨(none, 0, 0), rfl, by simpa using Own.nil _ _ _, Fr.refl _ _, by simp [blkOf]⟩
    have hI4 : (([r.k, r.nd, r.pt, r.ep, r.vr].take 5).map encI).flatten = encI r.k ++ encI r.nd ++ encI r.pt ++ encI r.ep ++ encI r.vr := by simp
    rw [hI4] at o4
    have hcl := cmdB_len h (by omega)
    have hcl' : (cmdB r).length = (encI r.k ++ encI r.nd ++ encI r.pt ++ encI r.ep ++ encI r.vr).length + (encL r.ls).length := by unfold cmdB; rw [List.length_append]
    have F4 : Fr [] w w4 := (Fr.mono (Fr.app F3 f4) (by have z0_ := Fr.size F3; have z1_ := Fr.size f4; intro y_ hy_ hl_; grind [blkOf]))
    have e5 : w4.cell? ⟨w.heap.size, 5, none⟩ = some (.slice q.1 q.2.1 q.2.2) := ((ba.fr fl (by simp)).fr f4 (by simp)).cell 5
    obtain ⟨v6, w6, e6, o6, f6, n6⟩ := ints43 (hu.fr3 F4 (by simp)) h.ls (by omega)
    obtain ⟨v7, w7, e7, o7, f7, n7⟩ := puts1 (o4.fr f6 (by simp)) o6 (by omega) (by omega)
    have F6 : Fr [] w w6 := (Fr.mono (Fr.app F4 f6) (by have z0_ := Fr.size F4; have z1_ := Fr.size f6; intro y_ hy_ hl_; grind [blkOf]))
    have n4' : ∀ y ∈ blkOf v4, w.heap.size ≤ y := fun y hy => by have := n4 y hy; omega
    refine ⟨v7, w7, g25_call (u0c0 := r.k) (u0c1 := r.nd) (u0c2 := r.pt) (u0c3 := r.ep) (u0c4 := r.vr) (u0c5 := q) ?_, o7, fr_new F6 n4' f7, fun y hy => ?_⟩
    · unfold g25
      rw [hw1]
      simp only [c0, k1, k2, addr_add, Nat.zero_add, c5, k5, c1, c2, c3, c4, obs, asP_pointer, asB_bool, asI_int, asS_string, asSl_slice, asM_map, asTup0, asTup1, asTup2, asTup3, asTup4, asTup5, asTup6, asTup7, asTup8, asTup9, asAgg2, asAgg3, asAgg4, asAgg5, asAgg6, asAgg7, asAgg8, asAgg9, asAgg12, getD0, getD1, getD2, getD3, getD4, getD5, getD6, getD7, getD8, getD9, getD10, getD11, getD12, getD13, getD14, getD15, getD16, getD17, getD18, getD19, Bool.not_true, Bool.not_false, Bool.false_eq_true, Bool.true_eq_false, ↓reduceIte, decide_true, decide_false, Option.isNone_some, Option.isNone_none, Option.isSome_some, Option.isSome_none, beq_self_eq_true, bne_self_eq_false, Bool.and_true, Bool.true_and, Bool.and_false, Bool.false_and, not_true_eq_false, not_false_eq_true]
      rw [hw3, g25_l19_x0_of g1]
      unfold g25_l19_x0
      simp only [addr_add, Nat.zero_add, e5, e6, e7, obs, asP_pointer, asB_bool, asI_int, asS_string, asSl_slice, asM_map, asTup0, asTup1, asTup2, asTup3, asTup4, asTup5, asTup6, asTup7, asTup8, asTup9, asAgg2, asAgg3, asAgg4, asAgg5, asAgg6, asAgg7, asAgg8, asAgg9, asAgg12, getD0, getD1, getD2, getD3, getD4, getD5, getD6, getD7, getD8, getD9, getD10, getD11, getD12, getD13, getD14, getD15, getD16, getD17, getD18, getD19, Bool.not_true, Bool.not_false, Bool.false_eq_true, Bool.true_eq_false, ↓reduceIte, decide_true, decide_false, Option.isNone_some, Option.isNone_none, Option.isSome_some, Option.isSome_none, beq_self_eq_true, bne_self_eq_false, Bool.and_true, Bool.true_and, Bool.and_false, Bool.false_and, not_true_eq_false, not_false_eq_true]
    · have := F6.size
      rcases n7 y hy with hh | hh
      · exact n4' y hh
      · omega
end Go.Proofs.Ytjcenfgmpbeldaa
