/-
  ImageZs: lemmas on what Go functions of this seat come to (for whatever arguments, as each says). No condition but those that stand in each lemma.
-/
import Derived.Test.YtjcenfgmpbeldaaImageZ
namespace Go.Proofs.Ytjcenfgmpbeldaa
open Go Go.Ev
set_option maxRecDepth 100000
set_option linter.unusedVariables false
set_option linter.unusedSimpArgs false

theorem same30 {w : World} {u v : ShT} {xs : List Int} (hu : SlI .u8 w u xs) (hv : SlI .u8 w v xs) (hl : xs.length ≤ 4611686018427387904) : ∃ w', callF Try.prog 28 #[.slice u.1 u.2.1 u.2.2, .slice v.1 v.2.1 v.2.2] w = some (.bool true, w') ∧ Fr [] w w' := by
  have h1 := hu.1
  have h2 := hv.1
  obtain ⟨t, w', g1, rfl, f⟩ := loopS_countX 0 (b := g28_l3_b u v) (I := fun k s x => s = (false, (k : Int)) ∧ Fr [] w x) (n := xs.length)
    (fun k s x hk ⟨hs, f⟩ => by
      subst hs
      have fx := Fr.drew [] x
      have fd : Fr [] w x.drew := (Fr.mono (Fr.app f fx) (by have z0_ := Fr.size f; have z1_ := Fr.size fx; intro y_ hy_ hl_; grind [blkOf]))
      obtain ⟨a, i1, c1⟩ := (hu.fr3 fd (by simp)).get hk
      obtain ⟨b, i2, c2⟩ := (hv.fr3 fd (by simp)).get hk
      have k0 : decide ((k : Int) < (u.2.1 : Int)) = true := by simp; omega
      have k1 : (xs[k] != xs[k]) = false := by simp
      have kw := wrap_succ (n := k) (by omega)
      refine ⟨_, x.drew, ?_, rfl, fd⟩
      unfold g28_l3_b
      simp only [k0, i1, c1, i2, c2, k1, kw, obs, asP_pointer, asB_bool, asI_int, asS_string, asSl_slice, asM_map, asTup0, asTup1, asTup2, asTup3, asTup4, asTup5, asTup6, asTup7, asTup8, asTup9, asAgg2, asAgg3, asAgg4, asAgg5, asAgg6, asAgg7, asAgg8, asAgg9, asAgg12, getD0, getD1, getD2, getD3, getD4, getD5, getD6, getD7, getD8, getD9, getD10, getD11, getD12, getD13, getD14, getD15, getD16, getD17, getD18, getD19, Bool.not_true, Bool.not_false, Bool.false_eq_true, Bool.true_eq_false, ↓reduceIte, decide_true, decide_false, Option.isNone_some, Option.isNone_none, Option.isSome_some, Option.isSome_none, beq_self_eq_true, bne_self_eq_false, Bool.and_true, Bool.true_and, Bool.and_false, Bool.false_and, not_true_eq_false, not_false_eq_true])
    (fun s x ⟨hs, f⟩ => by
      subst hs
      unfold g28_l3_b
      have k0 : decide ((xs.length : Int) < (u.2.1 : Int)) = false := by simp; omega
      simp only [k0, Bool.false_eq_true, if_false]) (k := 0) (s := (false, 0)) (w := w) (Nat.zero_le _) ⟨rfl, Fr.refl _ _⟩
  refine ⟨w', g28_call ?_, f⟩
  unfold g28
  have k0 : ((u.2.1 : Int) != (v.2.1 : Int)) = false := by simp; omega
  simp only [k0, Bool.false_eq_true, if_false]
  rw [g28_l3_x0_of g1, g28_l3_x0]

theorem same35 {w : World} {u v : ShT} {xs : List Int} (hu : SlI .i64 w u xs) (hv : SlI .i64 w v xs) (hl : xs.length ≤ 4611686018427387904) : ∃ w', callF Try.prog 19 #[.slice u.1 u.2.1 u.2.2, .slice v.1 v.2.1 v.2.2] w = some (.bool true, w') ∧ Fr [] w w' := by
  have h1 := hu.1
  have h2 := hv.1
  obtain ⟨t, w', g1, rfl, f⟩ := loopS_countX 0 (b := g19_l3_b u v) (I := fun k s x => s = (false, (k : Int)) ∧ Fr [] w x) (n := xs.length)
    (fun k s x hk ⟨hs, f⟩ => by
      subst hs
      have fx := Fr.drew [] x
      have fd : Fr [] w x.drew := (Fr.mono (Fr.app f fx) (by have z0_ := Fr.size f; have z1_ := Fr.size fx; intro y_ hy_ hl_; grind [blkOf]))
      obtain ⟨a, i1, c1⟩ := (hu.fr3 fd (by simp)).get hk
      obtain ⟨b, i2, c2⟩ := (hv.fr3 fd (by simp)).get hk
      have k0 : decide ((k : Int) < (u.2.1 : Int)) = true := by simp; omega
      have k1 : (xs[k] != xs[k]) = false := by simp
      have kw := wrap_succ (n := k) (by omega)
      refine ⟨_, x.drew, ?_, rfl, fd⟩
      unfold g19_l3_b
      simp only [k0, i1, c1, i2, c2, k1, kw, obs, asP_pointer, asB_bool, asI_int, asS_string, asSl_slice, asM_map, asTup0, asTup1, asTup2, asTup3, asTup4, asTup5, asTup6, asTup7, asTup8, asTup9, asAgg2, asAgg3, asAgg4, asAgg5, asAgg6, asAgg7, asAgg8, asAgg9, asAgg12, getD0, getD1, getD2, getD3, getD4, getD5, getD6, getD7, getD8, getD9, getD10, getD11, getD12, getD13, getD14, getD15, getD16, getD17, getD18, getD19, Bool.not_true, Bool.not_false, Bool.false_eq_true, Bool.true_eq_false, ↓reduceIte, decide_true, decide_false, Option.isNone_some, Option.isNone_none, Option.isSome_some, Option.isSome_none, beq_self_eq_true, bne_self_eq_false, Bool.and_true, Bool.true_and, Bool.and_false, Bool.false_and, not_true_eq_false, not_false_eq_true])
    (fun s x ⟨hs, f⟩ => by
      subst hs
      unfold g19_l3_b
      have k0 : decide ((xs.length : Int) < (u.2.1 : Int)) = false := by simp; omega
      simp only [k0, Bool.false_eq_true, if_false]) (k := 0) (s := (false, 0)) (w := w) (Nat.zero_le _) ⟨rfl, Fr.refl _ _⟩
  refine ⟨w', g19_call ?_, f⟩
  unfold g19
  have k0 : ((u.2.1 : Int) != (v.2.1 : Int)) = false := by simp; omega
  simp only [k0, Bool.false_eq_true, if_false]
  rw [g19_l3_x0_of g1, g19_l3_x0]

/-- a row of numbers just laid down -/
theorem lit_sl {w : World} {b : Nat} {l : List Int} (h : Blk w b (numsV l) 3) : SlI .i64 w (some ⟨b, 0, none⟩, l.length, l.length) l := by
  refine ⟨rfl, fun _ => ⟨b, 0, rfl, h.lt, fun i hi => ?_⟩⟩
  have := h.cell i
  rw [Nat.zero_add, this]
  simp [hi]
/-- a copy of bytes -/
theorem copyB {w : World} {u : ShT} {xs : List Int} (hu : SlI .u8 w u xs) (hl : xs.length ≤ 140737488351232) : ∃ v w', callB Try.prog .append #[43, 43] 43 #[false, false] #[.slice (some ⟨w.heap.size, 0, none⟩) 0 0, .slice u.1 u.2.1 u.2.2] (w.alloc (.cells #[] 5)) = some (.slice v.1 v.2.1 v.2.2, w') ∧ Own w' 5 1 v (bytesV xs) ∧ Fr [] w w' ∧ ∀ y ∈ blkOf v, w.heap.size ≤ y := by
  have hml : maxLen = 9223372036854775807 := by decide
  have hul := hu.1
  obtain ⟨v, w', e, o, f, n, _⟩ := app_empty t58 hu.slC (bytes_oc xs) (by omega) (by omega) 43 #[false, false]
  exact ⟨v, w', e, o, f, n⟩
theorem copyN {w : World} {u : ShT} {xs : List Int} (hu : SlI .i64 w u xs) (hl : xs.length ≤ 17592186043904) : ∃ v w', callB Try.prog .append #[28, 28] 28 #[false, false] #[.slice (some ⟨w.heap.size, 0, none⟩) 0 0, .slice u.1 u.2.1 u.2.2] (w.alloc (.cells #[] 3)) = some (.slice v.1 v.2.1 v.2.2, w') ∧ Own w' 3 1 v (numsV xs) ∧ Fr [] w w' ∧ ∀ y ∈ blkOf v, w.heap.size ≤ y := by
  have hml : maxLen = 9223372036854775807 := by decide
  have hul := hu.1
  obtain ⟨v, w', e, o, f, n, _⟩ := app_empty t28' hu.slC (by intro y hy; obtain ⟨z, _, rfl⟩ := List.mem_map.mp hy; rfl) (by omega) (by omega) 28 #[false, false]
  exact ⟨v, w', e, o, f, n⟩
end Go.Proofs.Ytjcenfgmpbeldaa
