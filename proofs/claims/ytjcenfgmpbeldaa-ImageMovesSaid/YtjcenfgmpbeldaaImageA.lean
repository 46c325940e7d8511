/-
  ImageA: lemmas on what Go functions of this seat come to (for whatever arguments, as each says). No condition but those that stand in each lemma.
-/
import Derived.Test.YtjcenfgmpbeldaaImageT
import Derived.Test.YtjcenfgmpbeldaaImageB
import Derived.Test.YtjcenfgmpbeldaaImageSo
import Derived.Test.YtjcenfgmpbeldaaLb10
namespace Go.Proofs.Ytjcenfgmpbeldaa
open Go Go.Ev
set_option maxRecDepth 100000
set_option linter.unusedVariables false
set_option linter.unusedSimpArgs false

theorem del48 {w : World} {a : Addr} {m : Int} (hc : w.cell? a = some (.int .i64 m)) (x : Int) : callF Try.prog 97 #[.int .i64 x, .pointer (some a)] w = some (.bool (x == m), w) := by
  refine g97_call ?_
  unfold g97
  simp only [hc, obs, asP_pointer, asB_bool, asI_int, asS_string, asSl_slice, asM_map, asTup0, asTup1, asTup2, asTup3, asTup4, asTup5, asTup6, asTup7, asTup8, asTup9, asAgg2, asAgg3, asAgg4, asAgg5, asAgg6, asAgg7, asAgg8, asAgg9, asAgg12, getD0, getD1, getD2, getD3, getD4, getD5, getD6, getD7, getD8, getD9, getD10, getD11, getD12, getD13, getD14, getD15, getD16, getD17, getD18, getD19, Bool.not_true, Bool.not_false, Bool.false_eq_true, Bool.true_eq_false, ↓reduceIte, decide_true, decide_false, Option.isNone_some, Option.isNone_none, Option.isSome_some, Option.isSome_none, beq_self_eq_true, bne_self_eq_false, Bool.and_true, Bool.true_and, Bool.and_false, Bool.false_and, not_true_eq_false, not_false_eq_true]

/-- IndexFunc: the first one that is m -/
theorem find63 {w : World} {q : Option Addr × Nat × Nat} {l : List Int} {a : Addr} {m : Int} (h : SlC w 1 q (intsV l)) (hn : l.length < 9223372036854775807) (hc : w.cell? a = some (.int .i64 m)) :
    ∃ n : Int, callF Try.prog 98 #[.slice q.1 q.2.1 q.2.2, .func (.func 97) #[] #[.pointer (some a)]] w = some (.int .i64 n, w) ∧ (n = -1 ∧ m ∉ l ∨ ∃ k : Nat, n = (k : Int) ∧ ∃ hk : k < l.length, l[k] = m ∧ m ∉ l.take k) := by
  have hl := h.1
  simp only [List.length_map, Nat.mul_one] at hl
  obtain ⟨e, t, w', g1, hQ⟩ := loopS_rule (b := g98x97_l2_b q a) (I := fun k s x => s = ((0 : Int), (k : Int)) ∧ x = w ∧ m ∉ l.take k)
    (Q := fun e s x => x = w ∧ (e = .ret ∧ (∃ k : Nat, s.1 = (k : Int) ∧ ∃ hk : k < l.length, l[k] = m ∧ m ∉ l.take k) ∨ e = .exit 0 ∧ m ∉ l)) (n := l.length)
    (fun k s x hk ⟨hs, hx, hv⟩ => by
      subst hs hx
      obtain ⟨a', i1, c1⟩ := h.get (i := k) (by simpa using hk)
      have k1 : decide ((k : Int) < (q.2.1 : Int)) = true := by simp; omega
      have c1' : x.cell? a' = some (.int .i64 l[k]) := by rw [c1]; simp
      have hw := wrap_succ (n := k) (by omega)
      have e48 := del48 hc l[k]
      by_cases he : l[k] = m
      · have k2 : (l[k] == m) = true := by simp [he]
        refine ⟨.ret, ((k : Int), (k : Int)), x, ?_, .inr ⟨by simp, rfl, .inl ⟨rfl, k, rfl, hk, he, hv⟩⟩⟩
        unfold g98x97_l2_b
        simp only [k1, i1, c1', e48, k2, obs, asP_pointer, asB_bool, asI_int, asS_string, asSl_slice, asM_map, asTup0, asTup1, asTup2, asTup3, asTup4, asTup5, asTup6, asTup7, asTup8, asTup9, asAgg2, asAgg3, asAgg4, asAgg5, asAgg6, asAgg7, asAgg8, asAgg9, asAgg12, getD0, getD1, getD2, getD3, getD4, getD5, getD6, getD7, getD8, getD9, getD10, getD11, getD12, getD13, getD14, getD15, getD16, getD17, getD18, getD19, Bool.not_true, Bool.not_false, Bool.false_eq_true, Bool.true_eq_false, ↓reduceIte, decide_true, decide_false, Option.isNone_some, Option.isNone_none, Option.isSome_some, Option.isSome_none, beq_self_eq_true, bne_self_eq_false, Bool.and_true, Bool.true_and, Bool.and_false, Bool.false_and, not_true_eq_false, not_false_eq_true]
      · have k2 : (l[k] == m) = false := by simp [he]
        refine ⟨.normal, ((0 : Int), ((k + 1 : Nat) : Int)), x, ?_, .inl ⟨rfl, rfl, rfl, ?_⟩⟩
        · unfold g98x97_l2_b
          simp only [k1, i1, c1', e48, k2, hw, obs, asP_pointer, asB_bool, asI_int, asS_string, asSl_slice, asM_map, asTup0, asTup1, asTup2, asTup3, asTup4, asTup5, asTup6, asTup7, asTup8, asTup9, asAgg2, asAgg3, asAgg4, asAgg5, asAgg6, asAgg7, asAgg8, asAgg9, asAgg12, getD0, getD1, getD2, getD3, getD4, getD5, getD6, getD7, getD8, getD9, getD10, getD11, getD12, getD13, getD14, getD15, getD16, getD17, getD18, getD19, Bool.not_true, Bool.not_false, Bool.false_eq_true, Bool.true_eq_false, ↓reduceIte, decide_true, decide_false, Option.isNone_some, Option.isNone_none, Option.isSome_some, Option.isSome_none, beq_self_eq_true, bne_self_eq_false, Bool.and_true, Bool.true_and, Bool.and_false, Bool.false_and, not_true_eq_false, not_false_eq_true]
        · rw [List.take_succ_eq_append_getElem hk]
          intro hm
          rcases List.mem_append.mp hm with hm | hm
          · exact hv hm
          · simp only [List.mem_singleton] at hm; exact he hm.symm)
    (fun s x ⟨hs, hx, hv⟩ => by
      subst hs hx
      rw [List.take_length] at hv
      refine ⟨.exit 0, ((0 : Int), (l.length : Int)), x, ?_, by simp, rfl, .inr ⟨rfl, hv⟩⟩
      unfold g98x97_l2_b
      have k1 : decide ((l.length : Int) < (q.2.1 : Int)) = false := by simp; omega
      simp only [k1, Bool.false_eq_true, if_false]) (k := 0) (s := ((0 : Int), (0 : Int))) (w := w) (Nat.zero_le _) ⟨rfl, rfl, by simp⟩
  obtain ⟨rfl, hQ⟩ := hQ
  rcases hQ with ⟨rfl, k, h0, hk⟩ | ⟨rfl, hv⟩
  · refine ⟨t.1, g98x97_call ?_, .inr ⟨k, h0, hk⟩⟩
    unfold g98x97
    rw [g98x97_l2_ret_of g1, g98x97_l2_ret]
  · refine ⟨-1, g98x97_call ?_, .inl ⟨rfl, hv⟩⟩
    unfold g98x97
    rw [g98x97_l2_x0_of g1, g98x97_l2_x0]

def without (l : List Int) (m : Int) : List Int := l.filter (fun x => !(x == m))
theorem without_not {l : List Int} {m : Int} (h : m ∉ l) : without l m = l := by
  unfold without
  rw [List.filter_eq_self]
  intro x hx
  have : ¬ x = m := fun e => h (e ▸ hx)
  simp [this]
theorem without_len (l : List Int) (m : Int) : (without l m).length ≤ l.length := List.length_filter_le _ _
theorem without_succ {l : List Int} {m : Int} {k : Nat} (hk : k < l.length) : without (l.take (k + 1)) m = without (l.take k) m ++ if l[k] = m then [] else [l[k]] := by
  unfold without
  rw [List.take_succ_eq_append_getElem hk, List.filter_append]
  by_cases he : l[k] = m <;> simp [he]

/-- DeleteFunc: all but m, in the same row -/
theorem delete47 {w : World} {q : Option Addr × Nat × Nat} {l : List Int} {a : Addr} {m : Int} (h : Own w 3 1 q (intsV l)) (hn : l.length < 4611686018427387904) (hc : w.cell? a = some (.int .i64 m)) (ha : a.block ∉ blkOf q) :
    ∃ v w', callF Try.prog 96 #[.slice q.1 q.2.1 q.2.2, .func (.func 97) #[] #[.pointer (some a)]] w = some (.slice v.1 v.2.1 v.2.2, w') ∧ Own w' 3 1 v (intsV (without l m)) ∧ Fr (blkOf q) w w' ∧ ∀ y ∈ blkOf v, y ∈ blkOf q := by
  have hl := h.len
  simp only [List.length_map, Nat.mul_one] at hl
  obtain ⟨n, e1, hf⟩ := find63 h.slC (by omega) hc
  rcases hf with ⟨rfl, hm⟩ | ⟨k0, rfl, hk0, hm0, hnot⟩
  · refine ⟨q, w, g96x97_call ?_, by rw [without_not hm]; exact h, Fr.refl _ _, fun _ => id⟩
    unfold g96x97
    have k1 : ((-1 : Int) == -1) = true := rfl
    simp only [e1, k1, obs, asP_pointer, asB_bool, asI_int, asS_string, asSl_slice, asM_map, asTup0, asTup1, asTup2, asTup3, asTup4, asTup5, asTup6, asTup7, asTup8, asTup9, asAgg2, asAgg3, asAgg4, asAgg5, asAgg6, asAgg7, asAgg8, asAgg9, asAgg12, getD0, getD1, getD2, getD3, getD4, getD5, getD6, getD7, getD8, getD9, getD10, getD11, getD12, getD13, getD14, getD15, getD16, getD17, getD18, getD19, Bool.not_true, Bool.not_false, Bool.false_eq_true, Bool.true_eq_false, ↓reduceIte, decide_true, decide_false, Option.isNone_some, Option.isNone_none, Option.isSome_some, Option.isSome_none, beq_self_eq_true, bne_self_eq_false, Bool.and_true, Bool.true_and, Bool.and_false, Bool.false_and, not_true_eq_false, not_false_eq_true]
  · -- the row behind j rounds: the first ones are those that are kept
    obtain ⟨t, w1, g1, i, ht, hi, ys, o1, f1, hys⟩ := loopS_countX 0 (b := g96x97_l3_b q a) (n := l.length)
      (I := fun j s x => ∃ i : Nat, s = ((i : Int), (j : Int)) ∧ i < j ∧ ∃ ys : List Int, Own x 3 1 q (intsV ys) ∧ Fr (blkOf q) w x ∧ ys.take i = without (l.take j) m ∧ ys.drop j = l.drop j)
      (fun j s x hj ⟨i, hs, hi, ys, ho, hF, hys, hd⟩ => by
        subst hs
        have hyl := ho.len
        simp only [List.length_map, Nat.mul_one] at hyl
        obtain ⟨g, off, a1, i1, c1⟩ := ints_at ho (i := j) (by omega)
        have hv : ys.getD j 0 = l[j] := by
          have := congrArg (fun z => z[0]?) hd
          simp at this
          rw [List.getElem?_eq_getElem hj, List.getElem?_eq_getElem (by omega)] at this
          simp only [Option.some.injEq] at this
          rw [List.getD_eq_getElem?_getD, List.getElem?_eq_getElem (by omega)]
          simpa using this
        rw [hv] at c1
        have hcx : x.cell? a = some (.int .i64 m) := by
          rw [cell_of_blk_eq (hF.keep a.block (World.block_lt_of_cell? w a hc) ha)]; exact hc
        have e48 := del48 hcx l[j]
        have k1 : decide ((j : Int) < (q.2.1 : Int)) = true := by simp; omega
        have hw := wrap_succ (n := j) (by omega)
        have hwi := wrap_succ (n := i) (by omega)
        by_cases he : l[j] = m
        · have k2 : (l[j] == m) = true := by simp [he]
          refine ⟨((i : Int), ((j + 1 : Nat) : Int)), x, ?_, i, rfl, by omega, ys, ho, hF, ?_, ?_⟩
          · unfold g96x97_l3_b
            simp only [k1, i1, c1, e48, k2, hw, obs, asP_pointer, asB_bool, asI_int, asS_string, asSl_slice, asM_map, asTup0, asTup1, asTup2, asTup3, asTup4, asTup5, asTup6, asTup7, asTup8, asTup9, asAgg2, asAgg3, asAgg4, asAgg5, asAgg6, asAgg7, asAgg8, asAgg9, asAgg12, getD0, getD1, getD2, getD3, getD4, getD5, getD6, getD7, getD8, getD9, getD10, getD11, getD12, getD13, getD14, getD15, getD16, getD17, getD18, getD19, Bool.not_true, Bool.not_false, Bool.false_eq_true, Bool.true_eq_false, ↓reduceIte, decide_true, decide_false, Option.isNone_some, Option.isNone_none, Option.isSome_some, Option.isSome_none, beq_self_eq_true, bne_self_eq_false, Bool.and_true, Bool.true_and, Bool.and_false, Bool.false_and, not_true_eq_false, not_false_eq_true]
          · rw [without_succ hj, if_pos he, List.append_nil, hys]
          · have := congrArg (List.drop 1) hd
            simpa using this
        · have k2 : (l[j] == m) = false := by simp [he]
          obtain ⟨g', off', a2, i2, c2⟩ := ints_at ho (i := i) (by omega)
          obtain ⟨s3, o3, f3⟩ := ho.set a2 (k := i) (by simp; omega) (u := .int .i64 l[j]) rfl
          refine ⟨(((i + 1 : Nat) : Int), ((j + 1 : Nat) : Int)), x.setCell ⟨g', off' + i, none⟩ (.int .i64 l[j]), ?_, i + 1, rfl, by omega, ys.set i l[j], ?_, ?_, ?_, ?_⟩
          · unfold g96x97_l3_b
            simp only [k1, i1, c1, e48, k2, hw, hwi, i2, s3, obs, asP_pointer, asB_bool, asI_int, asS_string, asSl_slice, asM_map, asTup0, asTup1, asTup2, asTup3, asTup4, asTup5, asTup6, asTup7, asTup8, asTup9, asAgg2, asAgg3, asAgg4, asAgg5, asAgg6, asAgg7, asAgg8, asAgg9, asAgg12, getD0, getD1, getD2, getD3, getD4, getD5, getD6, getD7, getD8, getD9, getD10, getD11, getD12, getD13, getD14, getD15, getD16, getD17, getD18, getD19, Bool.not_true, Bool.not_false, Bool.false_eq_true, Bool.true_eq_false, ↓reduceIte, decide_true, decide_false, Option.isNone_some, Option.isNone_none, Option.isSome_some, Option.isSome_none, beq_self_eq_true, bne_self_eq_false, Bool.and_true, Bool.true_and, Bool.and_false, Bool.false_and, not_true_eq_false, not_false_eq_true]
          · simpa [intsV, List.map_set] using o3
          · exact hF.trans f3
          · rw [without_succ hj, if_neg he, ← hys, List.take_succ_eq_append_getElem (by simp; omega), List.take_set_of_le (by omega)]
            simp
          · rw [List.drop_set_of_lt (by omega)]
            have := congrArg (List.drop 1) hd
            simpa using this)
      (fun s x ⟨i, hs, hi, ys, ho, hF, hys, hd⟩ => by
        subst hs
        unfold g96x97_l3_b
        have k1 : decide ((l.length : Int) < (q.2.1 : Int)) = false := by simp; omega
        simp only [k1, Bool.false_eq_true, if_false]) (k := k0 + 1) (s := ((k0 : Int), ((k0 + 1 : Nat) : Int))) (w := w) (by omega)
      ⟨k0, rfl, by omega, l, h, Fr.refl _ _, by rw [without_succ hk0, if_pos hm0, List.append_nil, without_not hnot], rfl⟩
    subst ht
    rw [List.take_length] at hys
    obtain ⟨hys, hd⟩ := hys
    have ile : i ≤ q.2.1 := by omega
    obtain ⟨w2, e2, o2, f2⟩ := clear_tail (P := Try.prog) (t := 28) (e := 3) (ty := 0) (cs := #[false]) Try.underlying28 (z := .int .i64 0) (by kernel_rfl) rfl rfl o1 ile
    have s1 := slc_from (u := q) (n := 1) ile h.le
    have s2 := slc_to (u := q) (n := 1) (j := i) (by have := h.le; omega)
    have hq0 : (if q.2.2 = 0 then q.1 else q.1.map (·.add (0 * 1)), i - 0, q.2.2 - 0) = (q.1, i, q.2.2) := by
      simp only [Nat.zero_mul, Nat.sub_zero]
      have : q.1.map (fun x : Addr => x.add 0) = q.1 := by cases q.1 <;> simp [addr_add0]
      rw [this, ite_self]
    rw [hq0] at s2
    refine ⟨(q.1, i, q.2.2), w2, g96x97_call ?_, ?_, f1.trans f2, fun y hy => hy⟩
    · unfold g96x97
      have k1 : ((k0 : Int) == -1) = false := by
        have : ¬ ((k0 : Int) = -1) := by omega
        simp [this]
      have hwi := wrap_succ (n := k0) (by omega)
      simp only [e1, k1, hwi, obs, asP_pointer, asB_bool, asI_int, asS_string, asSl_slice, asM_map, asTup0, asTup1, asTup2, asTup3, asTup4, asTup5, asTup6, asTup7, asTup8, asTup9, asAgg2, asAgg3, asAgg4, asAgg5, asAgg6, asAgg7, asAgg8, asAgg9, asAgg12, getD0, getD1, getD2, getD3, getD4, getD5, getD6, getD7, getD8, getD9, getD10, getD11, getD12, getD13, getD14, getD15, getD16, getD17, getD18, getD19, Bool.not_true, Bool.not_false, Bool.false_eq_true, Bool.true_eq_false, ↓reduceIte, decide_true, decide_false, Option.isNone_some, Option.isNone_none, Option.isSome_some, Option.isSome_none, beq_self_eq_true, bne_self_eq_false, Bool.and_true, Bool.true_and, Bool.and_false, Bool.false_and, not_true_eq_false, not_false_eq_true]
      rw [g96x97_l3_x0_of g1]
      unfold g96x97_l3_x0
      simp only [s1, e2, s2, obs, asP_pointer, asB_bool, asI_int, asS_string, asSl_slice, asM_map, asTup0, asTup1, asTup2, asTup3, asTup4, asTup5, asTup6, asTup7, asTup8, asTup9, asAgg2, asAgg3, asAgg4, asAgg5, asAgg6, asAgg7, asAgg8, asAgg9, asAgg12, getD0, getD1, getD2, getD3, getD4, getD5, getD6, getD7, getD8, getD9, getD10, getD11, getD12, getD13, getD14, getD15, getD16, getD17, getD18, getD19, Bool.not_true, Bool.not_false, Bool.false_eq_true, Bool.true_eq_false, ↓reduceIte, decide_true, decide_false, Option.isNone_some, Option.isNone_none, Option.isSome_some, Option.isSome_none, beq_self_eq_true, bne_self_eq_false, Bool.and_true, Bool.true_and, Bool.and_false, Bool.false_and, not_true_eq_false, not_false_eq_true]
    · rw [← hys]
      simpa [intsV, List.map_take] using o2
end Go.Proofs.Ytjcenfgmpbeldaa
