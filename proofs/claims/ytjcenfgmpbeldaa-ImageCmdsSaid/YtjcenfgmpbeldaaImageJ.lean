/-
  ImageJ: lemmas on what Go functions of this seat come to (for whatever arguments, as each says). No condition but those that stand in each lemma.
-/
import Derived.Test.YtjcenfgmpbeldaaImageI
namespace Go.Proofs.Ytjcenfgmpbeldaa
open Go Go.Ev
set_option maxRecDepth 100000
set_option linter.unusedVariables false
set_option linter.unusedSimpArgs false

def nv0 : NV := ⟨false, 0, 0⟩
theorem zrow3_1 : zrow (.agg #[.bool false, .int .i64 0, .int .u64 0]) (1 * 3) = (ndCs (List.replicate 1 nv0)).toArray := by kernel_rfl
theorem zrow3_2 : zrow (.agg #[.bool false, .int .i64 0, .int .u64 0]) (2 * 3) = (ndCs (List.replicate 2 nv0)).toArray := by kernel_rfl
theorem zrow3_3 : zrow (.agg #[.bool false, .int .i64 0, .int .u64 0]) (3 * 3) = (ndCs (List.replicate 3 nv0)).toArray := by kernel_rfl
theorem zrow3_4 : zrow (.agg #[.bool false, .int .i64 0, .int .u64 0]) (4 * 3) = (ndCs (List.replicate 4 nv0)).toArray := by kernel_rfl
theorem zrow3_5 : zrow (.agg #[.bool false, .int .i64 0, .int .u64 0]) (5 * 3) = (ndCs (List.replicate 5 nv0)).toArray := by kernel_rfl
theorem zrow3 {n : Nat} (h : 1 ≤ n ∧ n ≤ 5) : zrow (.agg #[.bool false, .int .i64 0, .int .u64 0]) (n * 3) = (ndCs (List.replicate n nv0)).toArray := by
  obtain ⟨h1, h2⟩ := h
  have : n = 1 ∨ n = 2 ∨ n = 3 ∨ n = 4 ∨ n = 5 := by omega
  rcases this with rfl | rfl | rfl | rfl | rfl
  · exact zrow3_1
  · exact zrow3_2
  · exact zrow3_3
  · exact zrow3_4
  · exact zrow3_5

theorem make3 (w : World) {n : Nat} (h : 1 ≤ n ∧ n ≤ 5) : Own (w.alloc (.cells (zrow (.agg #[.bool false, .int .i64 0, .int .u64 0]) (n * 3)) 85)) 85 3 (some ⟨w.heap.size, 0, none⟩, n, n) (ndCs (List.replicate n nv0)) := by
  have hml : maxLen = 9223372036854775807 := by decide
  have hl := ndCs_len (List.replicate n nv0)
  rw [List.length_replicate] at hl
  refine ⟨by rw [hl, Nat.mul_comm], Nat.le_refl _, by show n ≤ maxLen; omega, .inr ⟨w.heap.size, 0, zrow (.agg #[.bool false, .int .i64 0, .int .u64 0]) (n * 3), rfl, alloc_blk_new _, ?_, ?_⟩⟩
  · rw [zrow3 h]; simp [hl]; omega
  · rw [zrow3 h]
    simp only [List.drop_zero]
    rw [List.take_of_length_le]
    rw [hl]
    show 3 * n ≤ n * 3
    omega

def newParts (n c p : Nat) : List PV := (List.range p).map (newPart n c)

/-- the image at its beginning -/
theorem new11 (W : World) {n p c : Nat} (hn : 1 ≤ n ∧ n ≤ 5) (hp : 1 ≤ p ∧ p ≤ 6) (hc : 1 ≤ c ∧ c ≤ n) :
    ∃ w' D b ct nq pq es, callF Try.prog 11 #[.int .i64 (n : Int), .int .i64 (p : Int), .int .i64 (c : Int)] W = some (.tuple #[.pointer (some ⟨b, 0, none⟩), .int .i64 0], w') ∧ Raw w' D b ct nq pq (List.replicate n nv0) es 1 0 ∧ es.map (·.v) = newParts n c p ∧ Fr [] W w' ∧ ∀ y, D y → W.heap.size ≤ y := by
  -- the loop over the partitions, from a world in which nodes and counter are
  have main : ∀ (x : World) (ct : Nat) (nq : Sh), Own x 85 3 nq (ndCs (List.replicate n nv0)) → Ctr x ct 1 1001 → Fr [] W x → W.heap.size ≤ ct → (∀ y ∈ blkOf nq, W.heap.size ≤ y) →
      ∃ w' D pq es, g11_j8 (n : Int) (p : Int) (c : Int) W nq (some ⟨ct, 0, none⟩) x = some (.tuple #[.pointer (some ⟨x.heap.size, 0, none⟩), .int .i64 0], w') ∧ Raw w' D x.heap.size ct nq pq (List.replicate n nv0) es 1 0 ∧ es.map (·.v) = newParts n c p ∧ Fr [] W w' ∧ ∀ y, D y → W.heap.size ≤ y := by
    intro x ct nq on ctr hW hct hnq
    have fa : Fr [] x (x.alloc (.cells #[.slice nq.1 nq.2.1 nq.2.2, .slice none 0 0, .pointer (some ⟨ct, 0, none⟩), .int .i64 0] 79)) := Fr.alloc _
    have ba : Blk (x.alloc (.cells #[.slice nq.1 nq.2.1 nq.2.2, .slice none 0 0, .pointer (some ⟨ct, 0, none⟩), .int .i64 0] 79)) x.heap.size [.slice nq.1 nq.2.1 nq.2.2, .slice none 0 0, .pointer (some ⟨ct, 0, none⟩), .int .i64 0] 79 := Blk.new x [.slice nq.1 nq.2.1 nq.2.2, .slice none 0 0, .pointer (some ⟨ct, 0, none⟩), .int .i64 0] 79
    obtain ⟨x1, hx1⟩ : ∃ x1, x.alloc (.cells #[.slice nq.1 nq.2.1 nq.2.2, .slice none 0 0, .pointer (some ⟨ct, 0, none⟩), .int .i64 0] 79) = x1 := ⟨_, rfl⟩
    rw [hx1] at fa ba
    have zW := hW.size
    have za := fa.size
    have on1 := on.fr fa (by simp)
    have ct1 := ctr.fr fa (by simp)
    have R1 : Raw x1 (fun y => y = x.heap.size ∨ y = ct ∨ y ∈ blkOf nq) x.heap.size ct nq (none, 0, 0) (List.replicate n nv0) [] 1 0 :=
      ⟨ba, on1, Own.nil _ _ _, ct1, by simp, .inl rfl, .inr (.inl rfl), fun y hy => .inr (.inr hy), by simp [blkOf], fun y hy => by
        rcases hy with rfl | rfl | hy
        · exact ba.lt
        · exact lt_of_blk ct1
        · exact own_lt' on1 y hy⟩
    obtain ⟨t, w', g1, rfl, D, pq, es, R, hes, hF, hD⟩ := loopS_countX 0 (b := g11_l15_b (p : Int) (n : Int) (c : Int) x) (I := fun k s y => s = (k : Int) ∧ ∃ (D : Nat → Prop) (pq : Sh) (es : List PE), Raw y D x.heap.size ct nq pq (List.replicate n nv0) es 1 0 ∧ es.map (·.v) = (List.range k).map (newPart n c) ∧ Fr [] W y ∧ ∀ z, D z → W.heap.size ≤ z) (n := p)
      (fun k s y hk ⟨hs, D, pq, es, R, hes, hF, hD⟩ => by
        subst hs
        have hel : es.length = k := by have := congrArg List.length hes; simpa using this
        obtain ⟨q, y1, g2, oq, fq, nq'⟩ := new_in (x := y) (w11 := x) (c := c) (k := k) (p : Int) hn (by omega) (by omega)
        have lt := R.lt
        have zF := hF.size
        obtain ⟨D', pq', e, y2, g3, R3, he, hF3, hD3⟩ := new_x2 (W := W) (p : Int) (c : Int) (R.fr fq (by simp)) hn (cp := c) (k := k) (by omega) (by omega) (by omega) oq (fun z hz => ⟨fun hd => by have := lt z hd; have := nq' z hz; omega, by have := nq' z hz; omega⟩) (Fr.mono (Fr.app hF fq) (by have z0_ := Fr.size hF; have z1_ := Fr.size fq; intro y_ hy_ hl_; grind [blkOf])) hD
        refine ⟨_, y2, ?_, rfl, D', pq', es ++ [e], R3, ?_, hF3, hD3⟩
        · unfold g11_l15_b
          have k0 : decide ((k : Int) < (p : Int)) = true := by simp; omega
          simp only [k0, if_true]
          rw [g11_l18_x2_of g2, g3]
        · rw [List.map_append, hes, List.range_succ, List.map_append]
          simp [he])
      (fun s y ⟨hs, _⟩ => by
        subst hs
        unfold g11_l15_b
        simp) (k := 0) (s := 0) (w := x1) (Nat.zero_le _) ⟨rfl, _, _, [], R1, rfl, (Fr.mono (Fr.app hW fa) (by have z0_ := Fr.size hW; have z1_ := Fr.size fa; intro y_ hy_ hl_; grind [blkOf])), fun z hz => by
          rcases hz with rfl | rfl | hz
          · exact zW
          · exact hct
          · exact hnq z hz⟩
    refine ⟨w', D, pq, es, ?_, R, hes, hF, hD⟩
    unfold g11_j8
    rw [hx1, g11_l15_x0_of g1, g11_l15_x0]
  have k1 : decide ((n : Int) < 1) = false := by simp; omega
  have k2 : decide ((n : Int) > 5) = false := by simp; omega
  have k3 : decide ((p : Int) < 1) = false := by simp; omega
  have k4 : decide ((p : Int) > 6) = false := by simp; omega
  have k5 : decide ((c : Int) < 1) = false := by simp; omega
  have k6 : decide ((c : Int) > (n : Int)) = false := by simp; omega
  have cond : (0 : Int) ≤ (n : Int) ∧ (n : Int) ≤ (n : Int) ∧ (n : Int) < 9223372036854775808 ∧ ((24 : Nat) : Int) * (n : Int) ≤ 2 ^ 48 ∧ (0 : Nat) < 3 := ⟨by omega, Int.le_refl _, by omega, by omega, by decide⟩
  have htn : Int.toNat (n : Int) = n := by simp
  have fd := Fr.drew [] W
  by_cases hL : (ahd (Region.schedule true (opsOf (cAt [1, 1, 0] (bodyOf Try.f11))) (World.tape W (World.drawn W) (.order 11 3))) 1 2) = true
  · -- nodes first
    have o1 := make3 W.drew hn
    have fm : Fr [] W.drew (W.drew.alloc (.cells (zrow (.agg #[.bool false, .int .i64 0, .int .u64 0]) (n * 3)) 85)) := Fr.alloc _
    obtain ⟨x1, hx1⟩ : ∃ x1, W.drew.alloc (.cells (zrow (.agg #[.bool false, .int .i64 0, .int .u64 0]) (n * 3)) 85) = x1 := ⟨_, rfl⟩
    rw [hx1] at o1 fm
    obtain ⟨x2, e2, c2, f2⟩ := new34 (w := x1) 1 1001
    rw [if_neg (by decide)] at c2
    have z1 := fm.size
    have zz : W.drew.heap.size = W.heap.size := rfl
    obtain ⟨w', D, pq, es, e, R, h1, h2, h3⟩ := main x2 x1.heap.size (some ⟨W.drew.heap.size, 0, none⟩, n, n) (o1.fr f2 (by simp)) c2 (Fr.mono (Fr.app (Fr.app fd fm) f2) (by have z0_ := Fr.size fd; have z1_ := Fr.size fm; have z2_ := Fr.size f2; intro y_ hy_ hl_; grind [blkOf])) (by omega) (by intro y hy; simp [blkOf] at hy; omega)
    refine ⟨w', D, x2.heap.size, x1.heap.size, (some ⟨W.drew.heap.size, 0, none⟩, n, n), pq, es, g11_call ?_, R, h1, h2, h3⟩
    unfold g11
    simp only [k1, k2, k3, k4, k5, k6, obs, asP_pointer, asB_bool, asI_int, asS_string, asSl_slice, asM_map, asTup0, asTup1, asTup2, asTup3, asTup4, asTup5, asTup6, asTup7, asTup8, asTup9, asAgg2, asAgg3, asAgg4, asAgg5, asAgg6, asAgg7, asAgg8, asAgg9, asAgg12, getD0, getD1, getD2, getD3, getD4, getD5, getD6, getD7, getD8, getD9, getD10, getD11, getD12, getD13, getD14, getD15, getD16, getD17, getD18, getD19, Bool.not_true, Bool.not_false, Bool.false_eq_true, Bool.true_eq_false, ↓reduceIte, decide_true, decide_false, Option.isNone_some, Option.isNone_none, Option.isSome_some, Option.isSome_none, beq_self_eq_true, bne_self_eq_false, Bool.and_true, Bool.true_and, Bool.and_false, Bool.false_and, not_true_eq_false, not_false_eq_true]
    rw [if_pos hL, if_pos cond, htn, hx1]
    simp only [e2, obs, asP_pointer, asB_bool, asI_int, asS_string, asSl_slice, asM_map, asTup0, asTup1, asTup2, asTup3, asTup4, asTup5, asTup6, asTup7, asTup8, asTup9, asAgg2, asAgg3, asAgg4, asAgg5, asAgg6, asAgg7, asAgg8, asAgg9, asAgg12, getD0, getD1, getD2, getD3, getD4, getD5, getD6, getD7, getD8, getD9, getD10, getD11, getD12, getD13, getD14, getD15, getD16, getD17, getD18, getD19, Bool.not_true, Bool.not_false, Bool.false_eq_true, Bool.true_eq_false, ↓reduceIte, decide_true, decide_false, Option.isNone_some, Option.isNone_none, Option.isSome_some, Option.isSome_none, beq_self_eq_true, bne_self_eq_false, Bool.and_true, Bool.true_and, Bool.and_false, Bool.false_and, not_true_eq_false, not_false_eq_true]
    exact e
  · obtain ⟨x1, e1, c1, f1⟩ := new34 (w := W.drew) 1 1001
    rw [if_neg (by decide)] at c1
    have o2 := make3 x1 hn
    have fm : Fr [] x1 (x1.alloc (.cells (zrow (.agg #[.bool false, .int .i64 0, .int .u64 0]) (n * 3)) 85)) := Fr.alloc _
    obtain ⟨x2, hx2⟩ : ∃ x2, x1.alloc (.cells (zrow (.agg #[.bool false, .int .i64 0, .int .u64 0]) (n * 3)) 85) = x2 := ⟨_, rfl⟩
    rw [hx2] at o2 fm
    have z1 := f1.size
    have zz : W.drew.heap.size = W.heap.size := rfl
    obtain ⟨w', D, pq, es, e, R, h1, h2, h3⟩ := main x2 W.drew.heap.size (some ⟨x1.heap.size, 0, none⟩, n, n) o2 (c1.fr fm (by simp)) (Fr.mono (Fr.app (Fr.app fd f1) fm) (by have z0_ := Fr.size fd; have z1_ := Fr.size f1; have z2_ := Fr.size fm; intro y_ hy_ hl_; grind [blkOf])) (by omega) (by intro y hy; simp [blkOf] at hy; omega)
    refine ⟨w', D, x2.heap.size, W.drew.heap.size, (some ⟨x1.heap.size, 0, none⟩, n, n), pq, es, g11_call ?_, R, h1, h2, h3⟩
    unfold g11
    simp only [k1, k2, k3, k4, k5, k6, obs, asP_pointer, asB_bool, asI_int, asS_string, asSl_slice, asM_map, asTup0, asTup1, asTup2, asTup3, asTup4, asTup5, asTup6, asTup7, asTup8, asTup9, asAgg2, asAgg3, asAgg4, asAgg5, asAgg6, asAgg7, asAgg8, asAgg9, asAgg12, getD0, getD1, getD2, getD3, getD4, getD5, getD6, getD7, getD8, getD9, getD10, getD11, getD12, getD13, getD14, getD15, getD16, getD17, getD18, getD19, Bool.not_true, Bool.not_false, Bool.false_eq_true, Bool.true_eq_false, ↓reduceIte, decide_true, decide_false, Option.isNone_some, Option.isNone_none, Option.isSome_some, Option.isSome_none, beq_self_eq_true, bne_self_eq_false, Bool.and_true, Bool.true_and, Bool.and_false, Bool.false_and, not_true_eq_false, not_false_eq_true]
    rw [if_neg hL]
    simp only [e1, obs, asP_pointer, asB_bool, asI_int, asS_string, asSl_slice, asM_map, asTup0, asTup1, asTup2, asTup3, asTup4, asTup5, asTup6, asTup7, asTup8, asTup9, asAgg2, asAgg3, asAgg4, asAgg5, asAgg6, asAgg7, asAgg8, asAgg9, asAgg12, getD0, getD1, getD2, getD3, getD4, getD5, getD6, getD7, getD8, getD9, getD10, getD11, getD12, getD13, getD14, getD15, getD16, getD17, getD18, getD19, Bool.not_true, Bool.not_false, Bool.false_eq_true, Bool.true_eq_false, ↓reduceIte, decide_true, decide_false, Option.isNone_some, Option.isNone_none, Option.isSome_some, Option.isSome_none, beq_self_eq_true, bne_self_eq_false, Bool.and_true, Bool.true_and, Bool.and_false, Bool.false_and, not_true_eq_false, not_false_eq_true]
    rw [if_pos cond, htn, hx2]
    exact e
end Go.Proofs.Ytjcenfgmpbeldaa
