/-
  ImageMo: lemmas on what Go functions of this seat come to (for whatever arguments, as each says). No condition but those that stand in each lemma.
-/
import Derived.Test.YtjcenfgmpbeldaaImageAe
import Derived.Test.YtjcenfgmpbeldaaImageL4
namespace Go.Proofs.Ytjcenfgmpbeldaa
open Go Go.Ev
set_option maxRecDepth 100000
set_option linter.unusedVariables false
set_option linter.unusedSimpArgs false

/-! ## numbers of nodes that fulfil something, rising -/
def pickL (p : Int → Bool) (k : Nat) : List Int := ((List.range k).map (fun i : Nat => (i : Int))).filter p
theorem pickL_zero (p : Int → Bool) : pickL p 0 = [] := rfl
theorem pickL_succ (p : Int → Bool) (k : Nat) : pickL p (k + 1) = pickL p k ++ if p (k : Int) then [(k : Int)] else [] := by
  unfold pickL
  rw [List.range_succ, List.map_append, List.filter_append]
  congr 1
  simp only [List.map_cons, List.map_nil, List.filter_cons, List.filter_nil]
theorem pickL_mem {p : Int → Bool} {k : Nat} {y : Int} : y ∈ pickL p k ↔ (0 ≤ y ∧ y < k) ∧ p y = true := by
  unfold pickL
  simp only [List.mem_filter, List.mem_map, List.mem_range]
  constructor
  · rintro ⟨⟨i, hi, rfl⟩, h⟩; exact ⟨⟨by omega, by omega⟩, h⟩
  · rintro ⟨⟨h0, h1⟩, h⟩; exact ⟨⟨y.toNat, by omega, by omega⟩, h⟩
theorem pickL_up (p : Int → Bool) (k : Nat) : (pickL p k).Pairwise (· < ·) := by
  unfold pickL
  apply List.Pairwise.filter
  rw [List.pairwise_map]
  exact (List.pairwise_lt_range (n := k)).imp (by intro a b h; omega)
theorem pickL_len (p : Int → Bool) (k : Nat) : (pickL p k).length ≤ k := by
  unfold pickL
  have := List.length_filter_le p ((List.range k).map (fun i : Nat => (i : Int)))
  simpa using this
theorem pickL_sorted {p : Int → Bool} {k : Nat} (h : pickL p k ≠ []) : sortedI k (pickL p k) :=
  sortedI_iff.mpr ⟨h, fun y hy => (pickL_mem.mp hy).1, pickL_up p k⟩

def toP (xs : List Int) (n : Int) : Bool := xs.any fun x => decide (Int.tmod x 5 = n)

/-- the nodes that are named -/
theorem named5 {w : World} {u2 : Sh} {xs : List Int} (p4 : Option Addr) (u1 : Int) (hu : SlI .u8 w u2 xs) (hr : ∀ z ∈ xs, 0 ≤ z ∧ z ≤ 255) (hxl : xs.length ≤ 140737488351232) :
    ∃ v w', loopS (g4_l5_b u2 p4 u1) ((none, 0, 0), 0) w = some (.exit 0, (v, 5), w') ∧ Own w' 3 1 v (intsV' (pickL (toP xs) 5)) ∧ Fr [] w w' ∧ ∀ y ∈ blkOf v, w.heap.size ≤ y := by
  have hml : maxLen = 9223372036854775807 := by decide
  have hq := hu.1
  obtain ⟨t, w', g1, v, rfl, o, hF, hn⟩ := loopS_countX 0 (b := g4_l5_b u2 p4 u1) (n := 5)
    (I := fun k s x => ∃ v, s = (v, (k : Int)) ∧ Own x 3 1 v (intsV' (pickL (toP xs) k)) ∧ Fr [] w x ∧ ∀ y ∈ blkOf v, w.heap.size ≤ y)
    (fun k s x hk ⟨v, hs, ho, hF, hn⟩ => by
      subst hs
      obtain ⟨t2, x2, g2, v2, rfl, o2, F2, n2⟩ := loopS_countX 2 (b := g4_l9_b u2 (v, (k : Int)) p4 u1) (n := xs.length)
        (I := fun i s y => ∃ v, s = (v, (i : Int)) ∧ Own y 3 1 v (intsV' (pickL (toP xs) k ++ if toP (xs.take i) (k : Int) then [(k : Int)] else [])) ∧ Fr [] w y ∧ ∀ z ∈ blkOf v, w.heap.size ≤ z)
        (fun i s y hi ⟨v, hs, ho, hF, hn⟩ => by
          subst hs
          obtain ⟨a, i1, c1⟩ := (hu.fr3 hF (by simp)).get hi
          have hx := hr _ (List.getElem_mem hi)
          have k1 : decide ((i : Int) < (u2.2.1 : Int)) = true := by simp; omega
          have kw := wrap_succ (n := i) (by omega)
          have q0 := Int.tmod_nonneg 5 hx.1
          have q1 := Int.tmod_lt_of_pos xs[i] (show (0 : Int) < 5 by omega)
          have wm : IntKind.i64.wrap (Int.tmod xs[i] 5) = Int.tmod xs[i] 5 := wrap_i64 (by omega) (by omega)
          have hstep : toP (xs.take (i + 1)) (k : Int) = (toP (xs.take i) (k : Int) || decide (Int.tmod xs[i] 5 = (k : Int))) := by
            unfold toP
            rw [List.take_succ_eq_append_getElem hi, List.any_append]; simp
          rw [hstep]
          have hlen : (pickL (toP xs) k ++ if toP (xs.take i) (k : Int) then [(k : Int)] else []).length ≤ 10 := by
            have := pickL_len (toP xs) k
            rw [List.length_append]; split <;> simp <;> omega
          by_cases he : Int.tmod xs[i] 5 = (k : Int)
          · have k2 : (Int.tmod xs[i] 5 == (k : Int)) = true := by simp [he]
            have kd : decide (Int.tmod xs[i] 5 = (k : Int)) = true := by simp [he]
            have e17 := has17 ho.slC (by omega) (k : Int)
            cases ht : toP (xs.take i) (k : Int) with
            | true =>
              rw [ht, if_pos rfl] at ho e17
              have km : decide ((k : Int) ∈ pickL (toP xs) k ++ [(k : Int)]) = true := by simp
              refine ⟨_, y, ?_, v, rfl, by simpa using ho, hF, hn⟩
              unfold g4_l9_b
              simp only [k1, i1, c1, wm, k2, e17, km, kw, obs, asP_pointer, asB_bool, asI_int, asS_string, asSl_slice, asM_map, asTup0, asTup1, asTup2, asTup3, asTup4, asTup5, asTup6, asTup7, asTup8, asTup9, asAgg2, asAgg3, asAgg4, asAgg5, asAgg6, asAgg7, asAgg8, asAgg9, asAgg12, getD0, getD1, getD2, getD3, getD4, getD5, getD6, getD7, getD8, getD9, getD10, getD11, getD12, getD13, getD14, getD15, getD16, getD17, getD18, getD19, Bool.not_true, Bool.not_false, Bool.false_eq_true, Bool.true_eq_false, ↓reduceIte, decide_true, decide_false, Option.isNone_some, Option.isNone_none, Option.isSome_some, Option.isSome_none, beq_self_eq_true, bne_self_eq_false, Bool.and_true, Bool.true_and, Bool.and_false, Bool.false_and, not_true_eq_false, not_false_eq_true]
            | false =>
              rw [ht, if_neg (by simp), List.append_nil] at ho e17 hlen
              have km : decide ((k : Int) ∈ pickL (toP xs) k) = false := by
                simp only [decide_eq_false_iff_not]
                intro hm
                have := (pickL_mem.mp hm).1
                omega
              have hvl := ho.len
              simp only [intsV', List.length_map, Nat.mul_one] at hvl
              obtain ⟨v', y', e3, o3, f3, n3, l3⟩ := app_one t28 (w := y) ho (ys := [.int .i64 (k : Int)]) rfl (by intro z hz; simp at hz; subst hz; rfl) (by omega) (by omega) 28 #[false, false]
              have zF := hF.size
              refine ⟨_, y', ?_, v', rfl, ?_, (hF.app f3).mono (by intro z hz hl; simp at hz; have := hn z hz; omega), fun z hz => ?_⟩
              · unfold g4_l9_b
                simp only [k1, i1, c1, wm, k2, e17, km, e3, kw, obs, asP_pointer, asB_bool, asI_int, asS_string, asSl_slice, asM_map, asTup0, asTup1, asTup2, asTup3, asTup4, asTup5, asTup6, asTup7, asTup8, asTup9, asAgg2, asAgg3, asAgg4, asAgg5, asAgg6, asAgg7, asAgg8, asAgg9, asAgg12, getD0, getD1, getD2, getD3, getD4, getD5, getD6, getD7, getD8, getD9, getD10, getD11, getD12, getD13, getD14, getD15, getD16, getD17, getD18, getD19, Bool.not_true, Bool.not_false, Bool.false_eq_true, Bool.true_eq_false, ↓reduceIte, decide_true, decide_false, Option.isNone_some, Option.isNone_none, Option.isSome_some, Option.isSome_none, beq_self_eq_true, bne_self_eq_false, Bool.and_true, Bool.true_and, Bool.and_false, Bool.false_and, not_true_eq_false, not_false_eq_true]
              · rw [kd]; simpa [intsV'] using o3
              · rcases n3 z hz with hh | hh
                · exact hn z hh
                · omega
          · have k2 : (Int.tmod xs[i] 5 == (k : Int)) = false := by simp [he]
            have kd : decide (Int.tmod xs[i] 5 = (k : Int)) = false := by simp [he]
            refine ⟨_, y, ?_, v, rfl, by rw [kd, Bool.or_false]; exact ho, hF, hn⟩
            unfold g4_l9_b
            simp only [k1, i1, c1, wm, k2, kw, obs, asP_pointer, asB_bool, asI_int, asS_string, asSl_slice, asM_map, asTup0, asTup1, asTup2, asTup3, asTup4, asTup5, asTup6, asTup7, asTup8, asTup9, asAgg2, asAgg3, asAgg4, asAgg5, asAgg6, asAgg7, asAgg8, asAgg9, asAgg12, getD0, getD1, getD2, getD3, getD4, getD5, getD6, getD7, getD8, getD9, getD10, getD11, getD12, getD13, getD14, getD15, getD16, getD17, getD18, getD19, Bool.not_true, Bool.not_false, Bool.false_eq_true, Bool.true_eq_false, ↓reduceIte, decide_true, decide_false, Option.isNone_some, Option.isNone_none, Option.isSome_some, Option.isSome_none, beq_self_eq_true, bne_self_eq_false, Bool.and_true, Bool.true_and, Bool.and_false, Bool.false_and, not_true_eq_false, not_false_eq_true])
        (fun s y ⟨v, hs, _⟩ => by
          subst hs
          unfold g4_l9_b
          have k1 : decide ((xs.length : Int) < (u2.2.1 : Int)) = false := by simp; omega
          simp only [k1, Bool.false_eq_true, if_false]) (k := 0) (s := (v, 0)) (w := x) (Nat.zero_le _) ⟨v, rfl, by simpa [toP] using ho, hF, hn⟩
      have k0 : decide ((k : Int) < 5) = true := by simp; omega
      have kw := wrap_succ (n := k) (by omega)
      rw [List.take_length, ← pickL_succ] at o2
      refine ⟨_, x2, ?_, v2, rfl, o2, F2, n2⟩
      unfold g4_l5_b
      simp only [k0, if_true]
      rw [g4_l9_x2_of g2]
      unfold g4_l9_x2
      simp only [kw, obs, asP_pointer, asB_bool, asI_int, asS_string, asSl_slice, asM_map, asTup0, asTup1, asTup2, asTup3, asTup4, asTup5, asTup6, asTup7, asTup8, asTup9, asAgg2, asAgg3, asAgg4, asAgg5, asAgg6, asAgg7, asAgg8, asAgg9, asAgg12, getD0, getD1, getD2, getD3, getD4, getD5, getD6, getD7, getD8, getD9, getD10, getD11, getD12, getD13, getD14, getD15, getD16, getD17, getD18, getD19, Bool.not_true, Bool.not_false, Bool.false_eq_true, Bool.true_eq_false, ↓reduceIte, decide_true, decide_false, Option.isNone_some, Option.isNone_none, Option.isSome_some, Option.isSome_none, beq_self_eq_true, bne_self_eq_false, Bool.and_true, Bool.true_and, Bool.and_false, Bool.false_and, not_true_eq_false, not_false_eq_true])
    (fun s x ⟨v, hs, _⟩ => by subst hs; rfl) (k := 0) (s := ((none, 0, 0), 0)) (w := w) (Nat.zero_le _) ⟨(none, 0, 0), rfl, by rw [pickL_zero]; exact Own.nil _ _ _, Fr.refl _ _, by simp [blkOf]⟩
  exact ⟨v, w', g1, o, hF, hn⟩

/-- all of them in sync? -/
theorem all56 {w : World} {r30 : Value × World} {tl : Sh × Int} {L isr : List Int} {qi : Sh} {p4 : Option Addr} {u1 n44 : Int} {cs : List Value} (hL : Own w 3 1 tl.1 (intsV' L)) (hll : L.length ≤ 100) (hB : Blk w r30.2.heap.size cs 30) (hc : cs[3]? = some (.slice qi.1 qi.2.1 qi.2.2))
    (hoi : Own w 3 1 qi (intsV' isr)) (hil : isr.length ≤ 1000000000) :
    loopS (g4_l56_b tl r30 p4 u1 n44) (true, 0) w = some (.exit 4, (L.all fun n => decide (n ∈ isr), (L.length : Int)), w) := by
  have hq := hL.len
  simp only [intsV', List.length_map, Nat.mul_one] at hq
  have c3 : w.cell? ⟨r30.2.heap.size, 3, none⟩ = some (.slice qi.1 qi.2.1 qi.2.2) := by rw [hB.cell 3]; exact hc
  obtain ⟨t, w', g1, rfl, rfl⟩ := loopS_countX 4 (b := g4_l56_b tl r30 p4 u1 n44) (n := L.length)
    (I := fun i s y => s = ((L.take i).all fun n => decide (n ∈ isr), (i : Int)) ∧ y = w)
    (fun i s y hi ⟨hs, hy⟩ => by
      subst hs
      subst hy
      obtain ⟨a, i1, c1⟩ := hL.slC.get (i := i) (by simpa using hi)
      have c1' : y.cell? a = some (.int .i64 L[i]) := by rw [c1]; simp
      have k1 : decide ((i : Int) < (tl.1.2.1 : Int)) = true := by simp; omega
      have kw := wrap_succ (n := i) (by omega)
      have e17 := has17 hoi.slC (by omega) L[i]
      refine ⟨_, y, ?_, rfl, rfl⟩
      rw [List.take_succ_eq_append_getElem hi, List.all_append]
      unfold g4_l56_b
      cases hall : (L.take i).all fun n => decide (n ∈ isr) with
      | true =>
        simp only [k1, i1, c1', addr_add, Nat.zero_add, c3, e17, kw, obs, asP_pointer, asB_bool, asI_int, asS_string, asSl_slice, asM_map, asTup0, asTup1, asTup2, asTup3, asTup4, asTup5, asTup6, asTup7, asTup8, asTup9, asAgg2, asAgg3, asAgg4, asAgg5, asAgg6, asAgg7, asAgg8, asAgg9, asAgg12, getD0, getD1, getD2, getD3, getD4, getD5, getD6, getD7, getD8, getD9, getD10, getD11, getD12, getD13, getD14, getD15, getD16, getD17, getD18, getD19, Bool.not_true, Bool.not_false, Bool.false_eq_true, Bool.true_eq_false, ↓reduceIte, decide_true, decide_false, Option.isNone_some, Option.isNone_none, Option.isSome_some, Option.isSome_none, beq_self_eq_true, bne_self_eq_false, Bool.and_true, Bool.true_and, Bool.and_false, Bool.false_and, not_true_eq_false, not_false_eq_true]
        simp
      | false =>
        simp only [k1, i1, c1', kw, obs, asP_pointer, asB_bool, asI_int, asS_string, asSl_slice, asM_map, asTup0, asTup1, asTup2, asTup3, asTup4, asTup5, asTup6, asTup7, asTup8, asTup9, asAgg2, asAgg3, asAgg4, asAgg5, asAgg6, asAgg7, asAgg8, asAgg9, asAgg12, getD0, getD1, getD2, getD3, getD4, getD5, getD6, getD7, getD8, getD9, getD10, getD11, getD12, getD13, getD14, getD15, getD16, getD17, getD18, getD19, Bool.not_true, Bool.not_false, Bool.false_eq_true, Bool.true_eq_false, ↓reduceIte, decide_true, decide_false, Option.isNone_some, Option.isNone_none, Option.isSome_some, Option.isSome_none, beq_self_eq_true, bne_self_eq_false, Bool.and_true, Bool.true_and, Bool.and_false, Bool.false_and, not_true_eq_false, not_false_eq_true])
    (fun s y ⟨hs, hy⟩ => by
      subst hs
      subst hy
      unfold g4_l56_b
      have k1 : decide ((L.length : Int) < (tl.1.2.1 : Int)) = false := by simp; omega
      simp only [k1, Bool.false_eq_true, if_false]) (k := 0) (s := (true, 0)) (w := w) (Nat.zero_le _) ⟨by simp, rfl⟩
  rw [List.take_length] at g1
  exact g1

theorem b594 : @g4_l594_b = @g4_l261_b := rfl
theorem x594 : @g4_l594_x6 = @g4_l261_x6 := rfl

def bothP (L isr : List Int) (n : Int) : Bool := decide (n ∈ L) || decide (n ∈ isr)
def lostP (ns : List NV) (L isr : List Int) (n : Int) : Bool := decide (n ∈ L) && !aliveB ns n && !decide (n ∈ isr)

/-- who is named, or in sync -/
theorem both261 {w : World} {D : Nat → Prop} {b : Nat} {m : IM} {r70 : Value × World} {tl : Sh × Int} {L isr : List Int} {qi : Sh} {u1 : Int} {cs : List Value} (hI : Img w D b m) (hn5 : m.ns.length = 5) (hL : Own w 3 1 tl.1 (intsV' L)) (hll : L.length ≤ 100) (hB : Blk w r70.2.heap.size cs 30) (hc : cs[3]? = some (.slice qi.1 qi.2.1 qi.2.2))
    (hoi : Own w 3 1 qi (intsV' isr)) (hil : isr.length ≤ 1000000000) :
    ∃ e t w', loopS (g4_l261_b (some ⟨b, 0, none⟩) tl r70 u1) (false, (none, 0, 0), 0) w = some (e, t, w') ∧ Fr [] w w' ∧
      (e = .ret ∧ t.1 = true ∨ e = .exit 6 ∧ (∀ n ∈ L, 0 ≤ n ∧ n < 5 → aliveB m.ns n = true ∨ n ∈ isr) ∧ Own w' 3 1 t.2.1 (intsV' (pickL (bothP L isr) 5)) ∧ ∀ y ∈ blkOf t.2.1, w.heap.size ≤ y) := by
  have hml : maxLen = 9223372036854775807 := by decide
  obtain ⟨e, t, w', g1, hF, hQ⟩ := loopS_rule (b := g4_l261_b (some ⟨b, 0, none⟩) tl r70 u1) (n := 5)
    (I := fun k s x => ∃ v, s = (false, v, (k : Int)) ∧ Own x 3 1 v (intsV' (pickL (bothP L isr) k)) ∧ Fr [] w x ∧ (∀ y ∈ blkOf v, w.heap.size ≤ y) ∧ ∀ n : Int, 0 ≤ n → n < (k : Int) → lostP m.ns L isr n = false)
    (Q := fun e s x => Fr [] w x ∧ (e = .ret ∧ s.1 = true ∨ e = .exit 6 ∧ (∀ n ∈ L, 0 ≤ n ∧ n < 5 → aliveB m.ns n = true ∨ n ∈ isr) ∧ Own x 3 1 s.2.1 (intsV' (pickL (bothP L isr) 5)) ∧ ∀ y ∈ blkOf s.2.1, w.heap.size ≤ y))
    (fun k s x hk ⟨v, hs, ho, hF, hn, hno⟩ => by
      subst hs
      obtain ⟨cm, bk, x1, e1, f1⟩ := img_node (hI.fr hF (by simp)) (n := (k : Int)) (by omega)
      have F1 : Fr [] w x1 := (Fr.mono (Fr.app hF f1) (by have z0_ := Fr.size hF; have z1_ := Fr.size f1; intro y_ hy_ hl_; grind [blkOf]))
      have z1 := F1.size
      have e2 := has17 (hL.fr F1 (by simp)).slC (by omega) (k : Int)
      have e3 := has17 (hoi.fr F1 (by simp)).slC (by omega) (k : Int)
      have c3 : x1.cell? ⟨r70.2.heap.size, 3, none⟩ = some (.slice qi.1 qi.2.1 qi.2.2) := by rw [(hB.fr F1 (by simp)).cell 3]; exact hc
      have ho1 := ho.fr f1 (by simp)
      have hvl := ho1.len
      simp only [intsV', List.length_map, Nat.mul_one] at hvl
      have hpl := pickL_len (bothP L isr) k
      obtain ⟨v', y', e4, o4, f4, n4, l4⟩ := app_one t28 (w := x1) ho1 (ys := [.int .i64 (k : Int)]) rfl (by intro z hz; simp at hz; subst hz; rfl) (by omega) (by omega) 28 #[false, false]
      have F4 : Fr [] w y' := (F1.app f4).mono (by intro z hz hl; simp at hz; have := hn z hz; omega)
      have n4' : ∀ z ∈ blkOf v', w.heap.size ≤ z := fun z hz => by
        rcases n4 z hz with hh | hh
        · exact hn z hh
        · omega
      have k0 : decide ((k : Int) < 5) = true := by simp; omega
      have kw := wrap_succ (n := k) (by omega)
      have more : lostP m.ns L isr (k : Int) = false → ∀ n : Int, 0 ≤ n → n < ((k + 1 : Nat) : Int) → lostP m.ns L isr n = false := by
        intro hk' n h0 h1
        by_cases hnk : n = (k : Int)
        · rw [hnk]; exact hk'
        · exact hno n h0 (by omega)
      have tt : (decide ((k : Int) ∈ L) = true ∨ decide ((k : Int) ∈ isr) = true) → pickL (bothP L isr) (k + 1) = pickL (bothP L isr) k ++ [(k : Int)] := by
        intro hh
        rw [pickL_succ]
        have : bothP L isr (k : Int) = true := by unfold bothP; rcases hh with hh | hh <;> rw [hh] <;> simp
        rw [this]; rfl
      cases m1 : decide ((k : Int) ∈ L) with
      | true =>
        rw [m1] at e2
        cases m2 : aliveB m.ns (k : Int) with
        | true =>
          rw [m2] at e1
          refine ⟨.normal, (false, v', ((k + 1 : Nat) : Int)), y', ?_, .inl ⟨rfl, v', rfl, by rw [tt (.inl m1)]; simpa [intsV'] using o4, F4, n4', more (by unfold lostP; rw [m2]; simp)⟩⟩
          unfold g4_l261_b
          simp only [k0, e1, e2, e4, kw, obs, asP_pointer, asB_bool, asI_int, asS_string, asSl_slice, asM_map, asTup0, asTup1, asTup2, asTup3, asTup4, asTup5, asTup6, asTup7, asTup8, asTup9, asAgg2, asAgg3, asAgg4, asAgg5, asAgg6, asAgg7, asAgg8, asAgg9, asAgg12, getD0, getD1, getD2, getD3, getD4, getD5, getD6, getD7, getD8, getD9, getD10, getD11, getD12, getD13, getD14, getD15, getD16, getD17, getD18, getD19, Bool.not_true, Bool.not_false, Bool.false_eq_true, Bool.true_eq_false, ↓reduceIte, decide_true, decide_false, Option.isNone_some, Option.isNone_none, Option.isSome_some, Option.isSome_none, beq_self_eq_true, bne_self_eq_false, Bool.and_true, Bool.true_and, Bool.and_false, Bool.false_and, not_true_eq_false, not_false_eq_true]
        | false =>
          rw [m2] at e1
          cases m3 : decide ((k : Int) ∈ isr) with
          | true =>
            rw [m3] at e3
            refine ⟨.normal, (false, v', ((k + 1 : Nat) : Int)), y', ?_, .inl ⟨rfl, v', rfl, by rw [tt (.inl m1)]; simpa [intsV'] using o4, F4, n4', more (by unfold lostP; rw [m3]; simp)⟩⟩
            unfold g4_l261_b
            simp only [k0, e1, e2, addr_add, Nat.zero_add, c3, e3, e4, kw, obs, asP_pointer, asB_bool, asI_int, asS_string, asSl_slice, asM_map, asTup0, asTup1, asTup2, asTup3, asTup4, asTup5, asTup6, asTup7, asTup8, asTup9, asAgg2, asAgg3, asAgg4, asAgg5, asAgg6, asAgg7, asAgg8, asAgg9, asAgg12, getD0, getD1, getD2, getD3, getD4, getD5, getD6, getD7, getD8, getD9, getD10, getD11, getD12, getD13, getD14, getD15, getD16, getD17, getD18, getD19, Bool.not_true, Bool.not_false, Bool.false_eq_true, Bool.true_eq_false, ↓reduceIte, decide_true, decide_false, Option.isNone_some, Option.isNone_none, Option.isSome_some, Option.isSome_none, beq_self_eq_true, bne_self_eq_false, Bool.and_true, Bool.true_and, Bool.and_false, Bool.false_and, not_true_eq_false, not_false_eq_true]
          | false =>
            rw [m3] at e3
            refine ⟨.ret, (true, v, (k : Int)), x1, ?_, .inr ⟨by simp, F1, .inl ⟨rfl, rfl⟩⟩⟩
            unfold g4_l261_b
            simp only [k0, e1, e2, addr_add, Nat.zero_add, c3, e3, obs, asP_pointer, asB_bool, asI_int, asS_string, asSl_slice, asM_map, asTup0, asTup1, asTup2, asTup3, asTup4, asTup5, asTup6, asTup7, asTup8, asTup9, asAgg2, asAgg3, asAgg4, asAgg5, asAgg6, asAgg7, asAgg8, asAgg9, asAgg12, getD0, getD1, getD2, getD3, getD4, getD5, getD6, getD7, getD8, getD9, getD10, getD11, getD12, getD13, getD14, getD15, getD16, getD17, getD18, getD19, Bool.not_true, Bool.not_false, Bool.false_eq_true, Bool.true_eq_false, ↓reduceIte, decide_true, decide_false, Option.isNone_some, Option.isNone_none, Option.isSome_some, Option.isSome_none, beq_self_eq_true, bne_self_eq_false, Bool.and_true, Bool.true_and, Bool.and_false, Bool.false_and, not_true_eq_false, not_false_eq_true]
      | false =>
        rw [m1] at e2
        cases m3 : decide ((k : Int) ∈ isr) with
        | true =>
          rw [m3] at e3
          refine ⟨.normal, (false, v', ((k + 1 : Nat) : Int)), y', ?_, .inl ⟨rfl, v', rfl, by rw [tt (.inr m3)]; simpa [intsV'] using o4, F4, n4', more (by unfold lostP; rw [m1]; simp)⟩⟩
          unfold g4_l261_b
          simp only [k0, e1, e2, addr_add, Nat.zero_add, c3, e3, e4, kw, obs, asP_pointer, asB_bool, asI_int, asS_string, asSl_slice, asM_map, asTup0, asTup1, asTup2, asTup3, asTup4, asTup5, asTup6, asTup7, asTup8, asTup9, asAgg2, asAgg3, asAgg4, asAgg5, asAgg6, asAgg7, asAgg8, asAgg9, asAgg12, getD0, getD1, getD2, getD3, getD4, getD5, getD6, getD7, getD8, getD9, getD10, getD11, getD12, getD13, getD14, getD15, getD16, getD17, getD18, getD19, Bool.not_true, Bool.not_false, Bool.false_eq_true, Bool.true_eq_false, ↓reduceIte, decide_true, decide_false, Option.isNone_some, Option.isNone_none, Option.isSome_some, Option.isSome_none, beq_self_eq_true, bne_self_eq_false, Bool.and_true, Bool.true_and, Bool.and_false, Bool.false_and, not_true_eq_false, not_false_eq_true]
        | false =>
          rw [m3] at e3
          have hsame : pickL (bothP L isr) (k + 1) = pickL (bothP L isr) k := by
            rw [pickL_succ]
            have : bothP L isr (k : Int) = false := by unfold bothP; rw [m1, m3]; rfl
            rw [this]; simp
          refine ⟨.normal, (false, v, ((k + 1 : Nat) : Int)), x1, ?_, .inl ⟨rfl, v, rfl, by rw [hsame]; exact ho1, F1, hn, more (by unfold lostP; rw [m1]; simp)⟩⟩
          unfold g4_l261_b
          simp only [k0, e1, e2, addr_add, Nat.zero_add, c3, e3, kw, obs, asP_pointer, asB_bool, asI_int, asS_string, asSl_slice, asM_map, asTup0, asTup1, asTup2, asTup3, asTup4, asTup5, asTup6, asTup7, asTup8, asTup9, asAgg2, asAgg3, asAgg4, asAgg5, asAgg6, asAgg7, asAgg8, asAgg9, asAgg12, getD0, getD1, getD2, getD3, getD4, getD5, getD6, getD7, getD8, getD9, getD10, getD11, getD12, getD13, getD14, getD15, getD16, getD17, getD18, getD19, Bool.not_true, Bool.not_false, Bool.false_eq_true, Bool.true_eq_false, ↓reduceIte, decide_true, decide_false, Option.isNone_some, Option.isNone_none, Option.isSome_some, Option.isSome_none, beq_self_eq_true, bne_self_eq_false, Bool.and_true, Bool.true_and, Bool.and_false, Bool.false_and, not_true_eq_false, not_false_eq_true])
    (fun s x ⟨v, hs, ho, hF, hn, hno⟩ => by
      subst hs
      refine ⟨.exit 6, (false, v, (5 : Int)), x, rfl, by simp, hF, .inr ⟨rfl, fun n hn' hr => ?_, ho, hn⟩⟩
      have := hno n hr.1 (by omega)
      unfold lostP at this
      have hm : decide (n ∈ L) = true := by simp [hn']
      rw [hm] at this
      cases ha : aliveB m.ns n with
      | true => exact .inl rfl
      | false =>
        rw [ha] at this
        right
        simpa using this) (k := 0) (s := (false, (none, 0, 0), 0)) (w := w) (Nat.zero_le _) ⟨(none, 0, 0), rfl, by rw [pickL_zero]; exact Own.nil _ _ _, Fr.refl _ _, by simp [blkOf], fun n h0 h1 => by omega⟩
  exact ⟨e, t, w', g1, hF, hQ⟩
end Go.Proofs.Ytjcenfgmpbeldaa
