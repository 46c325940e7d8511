/-
  ImageU: lemmas on what Go functions of this seat come to (for whatever arguments, as each says). No condition but those that stand in each lemma.
-/
import Derived.Test.YtjcenfgmpbeldaaImageR
namespace Go.Proofs.Ytjcenfgmpbeldaa
open Go Go.Ev
set_option maxRecDepth 100000
set_option linter.unusedVariables false
set_option linter.unusedSimpArgs false

theorem decode30 {w : World} {u : ShT} {bs : List Int} (hu : SlI .u8 w u bs) (hb : ∀ b ∈ bs, 0 ≤ b ∧ b ≤ 255) (hl : bs.length ≤ 140737488351232) :
    ∃ v w', callF Try.prog 30 #[.slice u.1 u.2.1 u.2.2] w = some (.tuple #[(decC bs).1.arg v, .int .i64 (decC bs).2], w') ∧ Own w' 3 1 v (numsV (decC bs).1.ls) ∧ Fr [] w w' ∧ ∀ y ∈ blkOf v, w.heap.size ≤ y := by
  obtain ⟨bz, fz⟩ := zero33 w
  obtain ⟨w1, hw1⟩ : ∃ w1, w.alloc (.cells #[.int .i64 0, .int .i64 0, .int .i64 0, .int .i64 0, .int .i64 0, .slice none 0 0] 33) = w1 := ⟨_, rfl⟩
  rw [hw1] at bz fz
  obtain ⟨p, tq, w2, e2, R2, f2, np, nt⟩ := new56 (hu.fr3 fz (by simp)) hb hl
  obtain ⟨s0, hs0⟩ : ∃ s : RS, s = ⟨bs, 0, 0⟩ := ⟨_, rfl⟩
  rw [← hs0] at R2
  obtain ⟨w3, e3, R3, f3⟩ := int57 R2
  obtain ⟨w4, e4, R4, f4⟩ := int57 R3
  obtain ⟨w5, e5, R5, f5⟩ := int57 R4
  obtain ⟨w6, e6, R6, f6⟩ := int57 R5
  obtain ⟨w7, e7, R7, f7⟩ := int57 R6
  obtain ⟨v, w9, e8, o9, R9, f8, n8⟩ := ints59 R7
  have F37 : Fr [p] w2 w7 := fr1 (fr1 (fr1 (fr1 f3 f4) f5) f6) f7
  have F39 : Fr [p] w2 w9 := fr1 F37 f8
  obtain ⟨x, hx⟩ : ∃ x : CV, (⟨(intS s0).1, (intS (intS s0).2).1, (intS (intS (intS s0).2).2).1, (intS (intS (intS (intS s0).2).2).2).1, (intS (intS (intS (intS (intS s0).2).2).2).2).1,
    (intsS (intS (intS (intS (intS (intS s0).2).2).2).2).2).1⟩ : CV) = x := ⟨_, rfl⟩
  obtain ⟨s9, hs9⟩ : ∃ s9 : RS, (intsS (intS (intS (intS (intS (intS s0).2).2).2).2).2).2 = s9 := ⟨_, rfl⟩
  have h7 : rd6 s0 = (x, s9) := by unfold rd6; rw [hx, hs9]
  have z1 := fz.size
  have z2 := f2.size
  have z9 := F39.size
  have z37 := F37.size
  have lp := R2.blk.lt
  have nv : ∀ y ∈ blkOf v, w2.heap.size ≤ y := fun y hy => by
    have h1 := n8 y hy
    omega
  obtain ⟨w10, s10, b10, f10, l10⟩ := newC w9 x v
  rw [← hx] at s10
  simp only at s10
  rw [hs9] at R9
  have R10 := R9.fr f10 (by simp) (by simp)
  have e11 := end61 R10
  have f11 := Fr.drew [] w10
  have b11 := b10.fr f11 (by simp)
  have o11 := (o9.fr f10 (by simp)).fr f11 (by simp)
  have xp : x.ls = (intsS (intS (intS (intS (intS (intS s0).2).2).2).2).2).1 := by rw [← hx]
  rw [← xp] at o11
  have l11 := b11.ldN (n := 6) rfl
  simp only [CV.cs] at l11
  have bz2 := bz.fr f2 (by simp)
  have lbz := bz.lt
  have bz9 := bz2.fr F39 (by simp; omega)
  have bz11 := (bz9.fr f10 (by simp)).fr f11 (by simp)
  have F2 : Fr [] w w2 := (Fr.mono (Fr.app fz f2) (by have z0_ := Fr.size fz; have z1_ := Fr.size f2; intro y_ hy_ hl_; grind [blkOf]))
  have F9 : Fr [] w w9 := (F2.app F39).mono (by intro y hy hl; simp at hy; omega)
  have F11 : Fr [] w w10.drew := (Fr.mono (Fr.app (Fr.app F9 f10) f11) (by have z0_ := Fr.size F9; have z1_ := Fr.size f10; have z2_ := Fr.size f11; intro y_ hy_ hl_; grind [blkOf]))
  have leaf : ∀ (r : CV) (q : ShT), Own w10.drew 3 1 q (numsV r.ls) → (∀ y ∈ blkOf q, w1.heap.size ≤ y) → ∃ w', stL w10.drew ⟨w.heap.size, 0, none⟩ [.int .i64 r.k, .int .i64 r.nd, .int .i64 r.pt, .int .i64 r.ep, .int .i64 r.vr, .slice q.1 q.2.1 q.2.2] 0 = some w' ∧
      ldN w' ⟨w.heap.size, 0, none⟩ 0 6 = some [.int .i64 r.k, .int .i64 r.nd, .int .i64 r.pt, .int .i64 r.ep, .int .i64 r.vr, .slice q.1 q.2.1 q.2.2] ∧ Fr [] w w' ∧ Own w' 3 1 q (numsV r.ls) := by
    intro r q oq nq
    obtain ⟨w', r1, r2, r3, r4⟩ := retC bz11 rfl F11 (Nat.le_refl _) r q
    exact ⟨w', r1, r2, r3, oq.fr r4 (by intro y hy hm; simp at hm; have := nq y hy; omega)⟩
  have hD : decC bs = if endS s9 ≠ 0 then (cv0, endS s9) else if badC x then (cv0, 1) else (x, 0) := by
    unfold decC; rw [← hs0, h7]
  have hvl := o11.len
  simp only [List.length_map, Nat.mul_one] at hvl
  have y0 : w10.drew.cell? ⟨w9.heap.size, 0, none⟩ = some (.int .i64 x.k) := b11.cell 0
  have y5 : w10.drew.cell? ⟨w9.heap.size, 5, none⟩ = some (.slice v.1 v.2.1 v.2.2) := b11.cell 5
  by_cases he : endS s9 ≠ 0
  · obtain ⟨w', r1, r2, r3, r4⟩ := leaf cv0 (none, 0, 0) (Own.nil _ _ _) (by simp [blkOf])
    simp only [cv0] at r1 r2
    have k0 : (endS s9 != 0) = true := by simpa using he
    rw [hD, if_pos he]
    refine ⟨(none, 0, 0), w', g30_call ?_, Own.nil _ _ _, r3, by simp [blkOf]⟩
    unfold g30
    rw [hw1]
    simp only [e2, e3, e4, e5, e6, e7, e8, s10, e11, k0, r1, r2, obs, asP_pointer, asB_bool, asI_int, asS_string, asSl_slice, asM_map, asTup0, asTup1, asTup2, asTup3, asTup4, asTup5, asTup6, asTup7, asTup8, asTup9, asAgg2, asAgg3, asAgg4, asAgg5, asAgg6, asAgg7, asAgg8, asAgg9, asAgg12, getD0, getD1, getD2, getD3, getD4, getD5, getD6, getD7, getD8, getD9, getD10, getD11, getD12, getD13, getD14, getD15, getD16, getD17, getD18, getD19, Bool.not_true, Bool.not_false, Bool.false_eq_true, Bool.true_eq_false, ↓reduceIte, decide_true, decide_false, Option.isNone_some, Option.isNone_none, Option.isSome_some, Option.isSome_none, beq_self_eq_true, bne_self_eq_false, Bool.and_true, Bool.true_and, Bool.and_false, Bool.false_and, not_true_eq_false, not_false_eq_true]
    rfl
  · have k0 : (endS s9 != 0) = false := by simpa using he
    rw [if_neg he] at hD
    by_cases hb : badC x
    · obtain ⟨w', r1, r2, r3, r4⟩ := leaf cv0 (none, 0, 0) (Own.nil _ _ _) (by simp [blkOf])
      simp only [cv0] at r1 r2
      rw [hD, if_pos hb]
      refine ⟨(none, 0, 0), w', g30_call ?_, Own.nil _ _ _, r3, by simp [blkOf]⟩
      unfold g30
      rw [hw1]
      by_cases h1 : x.k < 1
      · have k1 : decide (x.k < 1) = true := by simp [h1]
        simp only [e2, e3, e4, e5, e6, e7, e8, s10, e11, k0, y0, k1, r1, r2, obs, asP_pointer, asB_bool, asI_int, asS_string, asSl_slice, asM_map, asTup0, asTup1, asTup2, asTup3, asTup4, asTup5, asTup6, asTup7, asTup8, asTup9, asAgg2, asAgg3, asAgg4, asAgg5, asAgg6, asAgg7, asAgg8, asAgg9, asAgg12, getD0, getD1, getD2, getD3, getD4, getD5, getD6, getD7, getD8, getD9, getD10, getD11, getD12, getD13, getD14, getD15, getD16, getD17, getD18, getD19, Bool.not_true, Bool.not_false, Bool.false_eq_true, Bool.true_eq_false, ↓reduceIte, decide_true, decide_false, Option.isNone_some, Option.isNone_none, Option.isSome_some, Option.isSome_none, beq_self_eq_true, bne_self_eq_false, Bool.and_true, Bool.true_and, Bool.and_false, Bool.false_and, not_true_eq_false, not_false_eq_true]
        rfl
      · have k1 : decide (x.k < 1) = false := by simp; omega
        by_cases h2 : 5 < x.k
        · have k2 : decide (x.k > 5) = true := by simp [h2]
          simp only [e2, e3, e4, e5, e6, e7, e8, s10, e11, k0, y0, k1, k2, r1, r2, obs, asP_pointer, asB_bool, asI_int, asS_string, asSl_slice, asM_map, asTup0, asTup1, asTup2, asTup3, asTup4, asTup5, asTup6, asTup7, asTup8, asTup9, asAgg2, asAgg3, asAgg4, asAgg5, asAgg6, asAgg7, asAgg8, asAgg9, asAgg12, getD0, getD1, getD2, getD3, getD4, getD5, getD6, getD7, getD8, getD9, getD10, getD11, getD12, getD13, getD14, getD15, getD16, getD17, getD18, getD19, Bool.not_true, Bool.not_false, Bool.false_eq_true, Bool.true_eq_false, ↓reduceIte, decide_true, decide_false, Option.isNone_some, Option.isNone_none, Option.isSome_some, Option.isSome_none, beq_self_eq_true, bne_self_eq_false, Bool.and_true, Bool.true_and, Bool.and_false, Bool.false_and, not_true_eq_false, not_false_eq_true]
          rfl
        · have k2 : decide (x.k > 5) = false := by simp; omega
          have k5 : decide ((v.2.1 : Int) > 5) = true := by unfold badC at hb; simp; omega
          simp only [e2, e3, e4, e5, e6, e7, e8, s10, e11, k0, y0, k1, k2, addr_add, Nat.zero_add, y5, k5, r1, r2, obs, asP_pointer, asB_bool, asI_int, asS_string, asSl_slice, asM_map, asTup0, asTup1, asTup2, asTup3, asTup4, asTup5, asTup6, asTup7, asTup8, asTup9, asAgg2, asAgg3, asAgg4, asAgg5, asAgg6, asAgg7, asAgg8, asAgg9, asAgg12, getD0, getD1, getD2, getD3, getD4, getD5, getD6, getD7, getD8, getD9, getD10, getD11, getD12, getD13, getD14, getD15, getD16, getD17, getD18, getD19, Bool.not_true, Bool.not_false, Bool.false_eq_true, Bool.true_eq_false, ↓reduceIte, decide_true, decide_false, Option.isNone_some, Option.isNone_none, Option.isSome_some, Option.isSome_none, beq_self_eq_true, bne_self_eq_false, Bool.and_true, Bool.true_and, Bool.and_false, Bool.false_and, not_true_eq_false, not_false_eq_true]
          rfl
    · obtain ⟨w', r1, r2, r3, r4⟩ := leaf x v o11 (fun y hy => by have := nv y hy; omega)
      rw [hD, if_neg hb]
      have hb' : ¬ x.k < 1 ∧ ¬ 5 < x.k ∧ ¬ 5 < x.ls.length := by unfold badC at hb; omega
      have k1 : decide (x.k < 1) = false := by simp; omega
      have k2 : decide (x.k > 5) = false := by simp; omega
      have k5 : decide ((v.2.1 : Int) > 5) = false := by simp; omega
      refine ⟨v, w', g30_call ?_, r4, r3, fun y hy => by have := nv y hy; omega⟩
      unfold g30
      rw [hw1]
      simp only [e2, e3, e4, e5, e6, e7, e8, s10, e11, k0, y0, k1, k2, addr_add, Nat.zero_add, y5, k5, l11, r1, r2, obs, asP_pointer, asB_bool, asI_int, asS_string, asSl_slice, asM_map, asTup0, asTup1, asTup2, asTup3, asTup4, asTup5, asTup6, asTup7, asTup8, asTup9, asAgg2, asAgg3, asAgg4, asAgg5, asAgg6, asAgg7, asAgg8, asAgg9, asAgg12, getD0, getD1, getD2, getD3, getD4, getD5, getD6, getD7, getD8, getD9, getD10, getD11, getD12, getD13, getD14, getD15, getD16, getD17, getD18, getD19, Bool.not_true, Bool.not_false, Bool.false_eq_true, Bool.true_eq_false, ↓reduceIte, decide_true, decide_false, Option.isNone_some, Option.isNone_none, Option.isSome_some, Option.isSome_none, beq_self_eq_true, bne_self_eq_false, Bool.and_true, Bool.true_and, Bool.and_false, Bool.false_and, not_true_eq_false, not_false_eq_true]
      rfl

theorem docdec26 {w : World} {u : ShT} {bs : List Int} (hu : SlI .u8 w u bs) (hb : ∀ b ∈ bs, 0 ≤ b ∧ b ≤ 255) (hl : bs.length ≤ 140737488351232) :
    ∃ v w', callF Try.prog 26 #[.slice u.1 u.2.1 u.2.2] w = some (.tuple #[(decC bs).1.arg v, .int .i64 (decC bs).2], w') ∧ Own w' 3 1 v (numsV (decC bs).1.ls) ∧ Fr [] w w' ∧ ∀ y ∈ blkOf v, w.heap.size ≤ y := by
  obtain ⟨bz, fz⟩ := zero33 w
  obtain ⟨w1, hw1⟩ : ∃ w1, w.alloc (.cells #[.int .i64 0, .int .i64 0, .int .i64 0, .int .i64 0, .int .i64 0, .slice none 0 0] 33) = w1 := ⟨_, rfl⟩
  rw [hw1] at bz fz
  have fr : Fr [] w1 (w1.alloc (.cells #[.slice u.1 u.2.1 u.2.2, .int .i64 0, .int .i64 0] 101)) := Fr.alloc _
  have br := Blk.new w1 [.slice u.1 u.2.1 u.2.2, .int .i64 0, .int .i64 0] 101
  change Blk (w1.alloc (.cells #[.slice u.1 u.2.1 u.2.2, .int .i64 0, .int .i64 0] 101)) _ _ _ at br
  obtain ⟨w2, hw2⟩ : ∃ w2, w1.alloc (.cells #[.slice u.1 u.2.1 u.2.2, .int .i64 0, .int .i64 0] 101) = w2 := ⟨_, rfl⟩
  rw [hw2] at fr br
  obtain ⟨bx, fx⟩ := zero33 w2
  obtain ⟨w3, hw3⟩ : ∃ w3, w2.alloc (.cells #[.int .i64 0, .int .i64 0, .int .i64 0, .int .i64 0, .int .i64 0, .slice none 0 0] 33) = w3 := ⟨_, rfl⟩
  rw [hw3] at bx fx
  have F3 : Fr [] w w3 := (Fr.mono (Fr.app (Fr.app fz fr) fx) (by have z0_ := Fr.size fz; have z1_ := Fr.size fr; have z2_ := Fr.size fx; intro y_ hy_ hl_; grind [blkOf]))
  have hul := hu.1
  have hlt : 0 < u.2.1 → ∀ y ∈ blkOf u, y < w.heap.size := fun h0 y hy => hu.slC.lt (by simp; omega) y hy
  have z1 := fz.size
  have z2 := fr.size
  have z3 := fx.size
  obtain ⟨s0, hs0⟩ : ∃ s : RS, s = ⟨bs, 0, 0⟩ := ⟨_, rfl⟩
  have R3 : Rdr 101 w3 w1.heap.size u s0 := by
    rw [hs0]
    exact ⟨br.fr fx (by simp), hu.fr3 F3 (by simp), fun h0 hm => by have := hlt h0 _ hm; omega, ⟨hb, by simp, by simp only; omega⟩⟩
  have lbr := br.lt
  have lbx := bx.lt
  have lbz := bz.lt
  have put : ∀ {x : World} {cs : List Value} {s : RS} (i : Nat) (v : Value), Blk x w2.heap.size cs 33 → i < cs.length → v.oneCell' = true → Rdr 101 x w1.heap.size u s → ∃ x', st1 x ⟨w2.heap.size, i, none⟩ v = some x' ∧ Blk x' w2.heap.size (cs.set i v) 33 ∧ Rdr 101 x' w1.heap.size u s ∧ Fr [w2.heap.size] x x' := by
    intro x cs s i v hb hi hv hR
    exact ⟨_, hb.st1 hi hv, hb.set i v, hR.fr Fr.setCell (by simp; omega) (fun h0 y hy hm => by simp at hm; have := hlt h0 y hy; omega), Fr.setCell⟩
  have kp : ∀ {x x' : World} {cs : List Value}, Blk x w2.heap.size cs 33 → Fr [w1.heap.size] x x' → Blk x' w2.heap.size cs 33 := fun hb hf => hb.fr hf (by simp; omega)
  obtain ⟨w4, e4, R4, f4⟩ := int45 R3
  obtain ⟨w5, s5, b5, R5, f5⟩ := put 0 (.int .i64 (intS s0).1) (kp bx f4) (by simp [CV.cs]) rfl R4
  obtain ⟨w6, e6, R6, f6⟩ := int45 R5
  obtain ⟨w7, s7, b7, R7, f7⟩ := put 1 (.int .i64 (intS (intS s0).2).1) (kp b5 f6) (by simp [CV.cs]) rfl R6
  obtain ⟨w8, e8, R8, f8⟩ := int45 R7
  obtain ⟨w9, s9', b9, R9, f9⟩ := put 2 (.int .i64 (intS (intS (intS s0).2).2).1) (kp b7 f8) (by simp [CV.cs]) rfl R8
  obtain ⟨w10, e10, R10, f10⟩ := int45 R9
  obtain ⟨w11, s11, b11, R11, f11⟩ := put 3 (.int .i64 (intS (intS (intS (intS s0).2).2).2).1) (kp b9 f10) (by simp [CV.cs]) rfl R10
  obtain ⟨w12, e12, R12, f12⟩ := int45 R11
  obtain ⟨w13, s13, b13, R13, f13⟩ := put 4 (.int .i64 (intS (intS (intS (intS (intS s0).2).2).2).2).1) (kp b11 f12) (by simp [CV.cs]) rfl R12
  obtain ⟨v, w14, e14, o14, R14, f14, n14⟩ := ints47 R13
  obtain ⟨w17, s17, b17, R17, f17⟩ := put 5 (.slice v.1 v.2.1 v.2.2) (kp b13 f14) (by simp [CV.cs]) rfl R14
  obtain ⟨s9, hs9⟩ : ∃ s9 : RS, (intsS (intS (intS (intS (intS (intS s0).2).2).2).2).2).2 = s9 := ⟨_, rfl⟩
  rw [hs9] at R17
  have e18 := end49 R17
  have f18 := Fr.drew [] w17
  obtain ⟨x, hx⟩ : ∃ x : CV, (⟨(intS s0).1, (intS (intS s0).2).1, (intS (intS (intS s0).2).2).1, (intS (intS (intS (intS s0).2).2).2).1, (intS (intS (intS (intS (intS s0).2).2).2).2).1,
    (intsS (intS (intS (intS (intS (intS s0).2).2).2).2).2).1⟩ : CV) = x := ⟨_, rfl⟩
  have h7 : rd6 s0 = (x, s9) := by unfold rd6; rw [hx, hs9]
  have hD : decC bs = if endS s9 ≠ 0 then (cv0, endS s9) else if badC x then (cv0, 1) else (x, 0) := by
    unfold decC; rw [← hs0, h7]
  have b17' : Blk w17 w2.heap.size (x.cs v) 33 := by rw [← hx]; exact b17
  have b18 := b17'.fr f18 (by simp)
  have xp : x.ls = (intsS (intS (intS (intS (intS (intS s0).2).2).2).2).2).1 := by rw [← hx]
  rw [← xp] at o14
  have G4 : Fr [w1.heap.size, w2.heap.size] w3 w13 := by
    have := (((((((((f4.app f5).app f6).app f7).app f8).app f9).app f10).app f11).app f12).app f13)
    exact this.mono (by intro y hy _; simp at hy ⊢; omega)
  have G17 : Fr [w1.heap.size, w2.heap.size] w14 w17 := f17.mono (by intro y hy _; simp at hy ⊢; omega)
  have G314 : Fr [w1.heap.size, w2.heap.size] w3 w17 := ((G4.app f14).app G17).mono (by intro y hy _; simp at hy ⊢; omega)
  have zz4 := G4.size
  have nv : ∀ y ∈ blkOf v, w3.heap.size ≤ y := fun y hy => by have := n14 y hy; omega
  have o18 := (o14.fr G17 (by intro y hy hm; have := nv y hy; simp at hm; omega)).fr f18 (by simp)
  have bz3 := (bz.fr fr (by simp)).fr fx (by simp)
  have bz18 := (bz3.fr G314 (by simp; omega)).fr f18 (by simp)
  have F18 : Fr [] w w17.drew := ((F3.app G314).app f18).mono (by intro y hy hl; simp at hy; omega)
  have hvl := o18.len
  simp only [List.length_map, Nat.mul_one] at hvl
  have leaf : ∀ (r : CV) (q : ShT), Own w17.drew 3 1 q (numsV r.ls) → (∀ y ∈ blkOf q, w1.heap.size ≤ y) → ∃ w', stL w17.drew ⟨w.heap.size, 0, none⟩ [.int .i64 r.k, .int .i64 r.nd, .int .i64 r.pt, .int .i64 r.ep, .int .i64 r.vr, .slice q.1 q.2.1 q.2.2] 0 = some w' ∧
      ldN w' ⟨w.heap.size, 0, none⟩ 0 6 = some [.int .i64 r.k, .int .i64 r.nd, .int .i64 r.pt, .int .i64 r.ep, .int .i64 r.vr, .slice q.1 q.2.1 q.2.2] ∧ Fr [] w w' ∧ Own w' 3 1 q (numsV r.ls) := by
    intro r q oq nq
    obtain ⟨w', r1, r2, r3, r4⟩ := retC bz18 rfl F18 (Nat.le_refl _) r q
    exact ⟨w', r1, r2, r3, oq.fr r4 (by intro y hy hm; simp at hm; have := nq y hy; omega)⟩
  have l18 := b18.ldN (n := 6) rfl
  simp only [CV.cs] at l18
  have y0 : w17.drew.cell? ⟨w2.heap.size, 0, none⟩ = some (.int .i64 x.k) := b18.cell 0
  have y5 : w17.drew.cell? ⟨w2.heap.size, 5, none⟩ = some (.slice v.1 v.2.1 v.2.2) := b18.cell 5
  by_cases he : endS s9 ≠ 0
  · obtain ⟨w', r1, r2, r3, r4⟩ := leaf cv0 (none, 0, 0) (Own.nil _ _ _) (by simp [blkOf])
    simp only [cv0] at r1 r2
    have k0 : (endS s9 != 0) = true := by simpa using he
    rw [hD, if_pos he]
    refine ⟨(none, 0, 0), w', g26_call ?_, Own.nil _ _ _, r3, by simp [blkOf]⟩
    unfold g26
    simp only [hw1, hw2, hw3]
    simp only [addr_add, Nat.zero_add, e4, s5, e6, s7, e8, s9', e10, s11, e12, s13, e14, s17, e18, k0, r1, r2, obs, asP_pointer, asB_bool, asI_int, asS_string, asSl_slice, asM_map, asTup0, asTup1, asTup2, asTup3, asTup4, asTup5, asTup6, asTup7, asTup8, asTup9, asAgg2, asAgg3, asAgg4, asAgg5, asAgg6, asAgg7, asAgg8, asAgg9, asAgg12, getD0, getD1, getD2, getD3, getD4, getD5, getD6, getD7, getD8, getD9, getD10, getD11, getD12, getD13, getD14, getD15, getD16, getD17, getD18, getD19, Bool.not_true, Bool.not_false, Bool.false_eq_true, Bool.true_eq_false, ↓reduceIte, decide_true, decide_false, Option.isNone_some, Option.isNone_none, Option.isSome_some, Option.isSome_none, beq_self_eq_true, bne_self_eq_false, Bool.and_true, Bool.true_and, Bool.and_false, Bool.false_and, not_true_eq_false, not_false_eq_true]
    rfl
  · have k0 : (endS s9 != 0) = false := by simpa using he
    rw [if_neg he] at hD
    by_cases hb : badC x
    · obtain ⟨w', r1, r2, r3, r4⟩ := leaf cv0 (none, 0, 0) (Own.nil _ _ _) (by simp [blkOf])
      simp only [cv0] at r1 r2
      rw [hD, if_pos hb]
      refine ⟨(none, 0, 0), w', g26_call ?_, Own.nil _ _ _, r3, by simp [blkOf]⟩
      unfold g26
      simp only [hw1, hw2, hw3]
      by_cases h1 : x.k < 1
      · have k1 : decide (x.k < 1) = true := by simp [h1]
        simp only [addr_add, Nat.zero_add, e4, s5, e6, s7, e8, s9', e10, s11, e12, s13, e14, s17, e18, k0, y0, k1, r1, r2, obs, asP_pointer, asB_bool, asI_int, asS_string, asSl_slice, asM_map, asTup0, asTup1, asTup2, asTup3, asTup4, asTup5, asTup6, asTup7, asTup8, asTup9, asAgg2, asAgg3, asAgg4, asAgg5, asAgg6, asAgg7, asAgg8, asAgg9, asAgg12, getD0, getD1, getD2, getD3, getD4, getD5, getD6, getD7, getD8, getD9, getD10, getD11, getD12, getD13, getD14, getD15, getD16, getD17, getD18, getD19, Bool.not_true, Bool.not_false, Bool.false_eq_true, Bool.true_eq_false, ↓reduceIte, decide_true, decide_false, Option.isNone_some, Option.isNone_none, Option.isSome_some, Option.isSome_none, beq_self_eq_true, bne_self_eq_false, Bool.and_true, Bool.true_and, Bool.and_false, Bool.false_and, not_true_eq_false, not_false_eq_true]
        rfl
      · have k1 : decide (x.k < 1) = false := by simp; omega
        by_cases h2 : 5 < x.k
        · have k2 : decide (x.k > 5) = true := by simp [h2]
          simp only [addr_add, Nat.zero_add, e4, s5, e6, s7, e8, s9', e10, s11, e12, s13, e14, s17, e18, k0, y0, k1, k2, r1, r2, obs, asP_pointer, asB_bool, asI_int, asS_string, asSl_slice, asM_map, asTup0, asTup1, asTup2, asTup3, asTup4, asTup5, asTup6, asTup7, asTup8, asTup9, asAgg2, asAgg3, asAgg4, asAgg5, asAgg6, asAgg7, asAgg8, asAgg9, asAgg12, getD0, getD1, getD2, getD3, getD4, getD5, getD6, getD7, getD8, getD9, getD10, getD11, getD12, getD13, getD14, getD15, getD16, getD17, getD18, getD19, Bool.not_true, Bool.not_false, Bool.false_eq_true, Bool.true_eq_false, ↓reduceIte, decide_true, decide_false, Option.isNone_some, Option.isNone_none, Option.isSome_some, Option.isSome_none, beq_self_eq_true, bne_self_eq_false, Bool.and_true, Bool.true_and, Bool.and_false, Bool.false_and, not_true_eq_false, not_false_eq_true]
          rfl
        · have k2 : decide (x.k > 5) = false := by simp; omega
          have k5 : decide ((v.2.1 : Int) > 5) = true := by unfold badC at hb; simp; omega
          simp only [addr_add, Nat.zero_add, e4, s5, e6, s7, e8, s9', e10, s11, e12, s13, e14, s17, e18, k0, y0, k1, k2, y5, k5, r1, r2, obs, asP_pointer, asB_bool, asI_int, asS_string, asSl_slice, asM_map, asTup0, asTup1, asTup2, asTup3, asTup4, asTup5, asTup6, asTup7, asTup8, asTup9, asAgg2, asAgg3, asAgg4, asAgg5, asAgg6, asAgg7, asAgg8, asAgg9, asAgg12, getD0, getD1, getD2, getD3, getD4, getD5, getD6, getD7, getD8, getD9, getD10, getD11, getD12, getD13, getD14, getD15, getD16, getD17, getD18, getD19, Bool.not_true, Bool.not_false, Bool.false_eq_true, Bool.true_eq_false, ↓reduceIte, decide_true, decide_false, Option.isNone_some, Option.isNone_none, Option.isSome_some, Option.isSome_none, beq_self_eq_true, bne_self_eq_false, Bool.and_true, Bool.true_and, Bool.and_false, Bool.false_and, not_true_eq_false, not_false_eq_true]
          rfl
    · obtain ⟨w', r1, r2, r3, r4⟩ := leaf x v o18 (fun y hy => by have := nv y hy; omega)
      rw [hD, if_neg hb]
      have hb' : ¬ x.k < 1 ∧ ¬ 5 < x.k ∧ ¬ 5 < x.ls.length := by unfold badC at hb; omega
      have k1 : decide (x.k < 1) = false := by simp; omega
      have k2 : decide (x.k > 5) = false := by simp; omega
      have k5 : decide ((v.2.1 : Int) > 5) = false := by simp; omega
      refine ⟨v, w', g26_call ?_, r4, r3, fun y hy => by have := nv y hy; omega⟩
      unfold g26
      simp only [hw1, hw2, hw3]
      simp only [addr_add, Nat.zero_add, e4, s5, e6, s7, e8, s9', e10, s11, e12, s13, e14, s17, e18, k0, y0, k1, k2, y5, k5, l18, r1, r2, obs, asP_pointer, asB_bool, asI_int, asS_string, asSl_slice, asM_map, asTup0, asTup1, asTup2, asTup3, asTup4, asTup5, asTup6, asTup7, asTup8, asTup9, asAgg2, asAgg3, asAgg4, asAgg5, asAgg6, asAgg7, asAgg8, asAgg9, asAgg12, getD0, getD1, getD2, getD3, getD4, getD5, getD6, getD7, getD8, getD9, getD10, getD11, getD12, getD13, getD14, getD15, getD16, getD17, getD18, getD19, Bool.not_true, Bool.not_false, Bool.false_eq_true, Bool.true_eq_false, ↓reduceIte, decide_true, decide_false, Option.isNone_some, Option.isNone_none, Option.isSome_some, Option.isSome_none, beq_self_eq_true, bne_self_eq_false, Bool.and_true, Bool.true_and, Bool.and_false, Bool.false_and, not_true_eq_false, not_false_eq_true]
      rfl
end Go.Proofs.Ytjcenfgmpbeldaa
