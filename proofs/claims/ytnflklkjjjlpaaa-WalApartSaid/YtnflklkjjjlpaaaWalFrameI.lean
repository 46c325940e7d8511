/-
  WalFrameI: lemmas on what Go functions of this seat come to (for whatever arguments, as each says). No condition but those that stand in each lemma.
-/
import Derived.Test.YtnflklkjjjlpaaaWalFrameH
namespace Go.Proofs.Ytnflklkjjjlpaaa
open Go Go.Ev Go.Crc
set_option maxRecDepth 100000
set_option linter.unusedVariables false
set_option linter.unusedSimpArgs false
section
variable {w : World}

theorem same14 {u v : Option Addr × Nat × Nat} {a b : List Int} (hu : Sl8 w u a) (hv : Sl8 w v b) (hl : a.length < 9223372036854775807) :
    ∃ w', callF Try.prog 16 #[.slice u.1 u.2.1 u.2.2, .slice v.1 v.2.1 v.2.2] w = some (.bool (decide (a = b)), w') ∧ Fr [] w w' := by
  have h1 := hu.1
  have h2 := hv.1
  by_cases hlen : a.length = b.length
  · have hne : ((u.2.1 : Int) != (v.2.1 : Int)) = false := by
      have : (u.2.1 : Int) = (v.2.1 : Int) := by omega
      simp [this]
    obtain ⟨e, t, w', g1, g2, g3⟩ := loopS_rule (b := g16_l3_b u v)
      (I := fun k s x => s = (false, (k : Int)) ∧ Fr [] w x ∧ a.take k = b.take k)
      (Q := fun e s x => Fr [] w x ∧ ((e = .exit 0 ∧ a = b) ∨ (e = .ret ∧ s.1 = false ∧ a ≠ b))) (n := a.length)
      (fun k s x hk ⟨hs, hf, ht⟩ => by
        subst hs
        obtain ⟨p1, i1, c1⟩ := (hu.fr2 (hf.trans (Fr.drew _ _)) (by simp)).get hk
        obtain ⟨p2, i2, c2⟩ := (hv.fr2 (hf.trans (Fr.drew _ _)) (by simp)).get (i := k) (by omega)
        have hc : (k : Int) < (u.2.1 : Int) := by omega
        have hs := wrap_succ (n := k) (by omega)
        by_cases he : a[k] = b[k]
        · refine ⟨.normal, (false, ((k + 1 : Nat) : Int)), x.drew, ?_, .inl ⟨rfl, rfl, hf.trans (Fr.drew _ _), ?_⟩⟩
          · have hne : (a[k] != b[k]) = false := by simpa using he
            unfold g16_l3_b
            simp only [hc, i1, c1, i2, c2, hne, hs, Option.bind_some, asP_pointer, asB_bool, asI_int, asS_string, asSl_slice, asM_map, asTup0, asTup1, asTup2, asTup3, asTup4, asTup5, getD0, getD1, getD2, getD3, getD4, Bool.not_true, Bool.not_false, Bool.false_eq_true, Bool.true_eq_false, ↓reduceIte, decide_true, decide_false, Option.isNone_some, Option.isNone_none, Option.isSome_some, Option.isSome_none, beq_self_eq_true, bne_self_eq_false, Bool.and_true, Bool.true_and, Bool.and_false, Bool.false_and, not_true_eq_false, not_false_eq_true]
          · rw [List.take_succ_eq_append_getElem hk, List.take_succ_eq_append_getElem (by omega), ht, he]
        · refine ⟨.ret, (false, (k : Int)), x.drew, ?_, .inr ⟨by simp, hf.trans (Fr.drew _ _), .inr ⟨rfl, rfl, fun e => he (by subst e; rfl)⟩⟩⟩
          have hne : (a[k] != b[k]) = true := by simpa using he
          unfold g16_l3_b
          simp only [hc, i1, c1, i2, c2, hne, Option.bind_some, asP_pointer, asB_bool, asI_int, asS_string, asSl_slice, asM_map, asTup0, asTup1, asTup2, asTup3, asTup4, asTup5, getD0, getD1, getD2, getD3, getD4, Bool.not_true, Bool.not_false, Bool.false_eq_true, Bool.true_eq_false, ↓reduceIte, decide_true, decide_false, Option.isNone_some, Option.isNone_none, Option.isSome_some, Option.isSome_none, beq_self_eq_true, bne_self_eq_false, Bool.and_true, Bool.true_and, Bool.and_false, Bool.false_and, not_true_eq_false, not_false_eq_true])
      (fun s x ⟨hs, hf, ht⟩ => by
        subst hs
        refine ⟨.exit 0, (false, ((a.length : Nat) : Int)), x, ?_, by simp, hf, .inl ⟨rfl, ?_⟩⟩
        · have hc : ¬ ((a.length : Nat) : Int) < (u.2.1 : Int) := by omega
          unfold g16_l3_b
          simp only [hc, Option.bind_some, asP_pointer, asB_bool, asI_int, asS_string, asSl_slice, asM_map, asTup0, asTup1, asTup2, asTup3, asTup4, asTup5, getD0, getD1, getD2, getD3, getD4, Bool.not_true, Bool.not_false, Bool.false_eq_true, Bool.true_eq_false, ↓reduceIte, decide_true, decide_false, Option.isNone_some, Option.isNone_none, Option.isSome_some, Option.isSome_none, beq_self_eq_true, bne_self_eq_false, Bool.and_true, Bool.true_and, Bool.and_false, Bool.false_and, not_true_eq_false, not_false_eq_true]
        · rwa [List.take_length, List.take_of_length_le (Nat.le_of_eq hlen.symm)] at ht)
      (Nat.zero_le _) (k := 0) (s := (false, 0)) (w := w) ⟨rfl, Fr.refl _ _, rfl⟩
    refine ⟨w', g16_call ?_, g2⟩
    rcases g3 with ⟨rfl, h⟩ | ⟨rfl, hf, h⟩
    · have hd : decide (a = b) = true := by simpa using h
      unfold g16
      rw [hd]
      simp only [hne, g16_l3_x0_of g1, g16_l3_x0, Option.bind_some, asP_pointer, asB_bool, asI_int, asS_string, asSl_slice, asM_map, asTup0, asTup1, asTup2, asTup3, asTup4, asTup5, getD0, getD1, getD2, getD3, getD4, Bool.not_true, Bool.not_false, Bool.false_eq_true, Bool.true_eq_false, ↓reduceIte, decide_true, decide_false, Option.isNone_some, Option.isNone_none, Option.isSome_some, Option.isSome_none, beq_self_eq_true, bne_self_eq_false, Bool.and_true, Bool.true_and, Bool.and_false, Bool.false_and, not_true_eq_false, not_false_eq_true]
    · have hd : decide (a = b) = false := by simpa using h
      unfold g16
      rw [hd]
      simp only [hne, g16_l3_ret_of g1, g16_l3_ret, hf, Option.bind_some, asP_pointer, asB_bool, asI_int, asS_string, asSl_slice, asM_map, asTup0, asTup1, asTup2, asTup3, asTup4, asTup5, getD0, getD1, getD2, getD3, getD4, Bool.not_true, Bool.not_false, Bool.false_eq_true, Bool.true_eq_false, ↓reduceIte, decide_true, decide_false, Option.isNone_some, Option.isNone_none, Option.isSome_some, Option.isSome_none, beq_self_eq_true, bne_self_eq_false, Bool.and_true, Bool.true_and, Bool.and_false, Bool.false_and, not_true_eq_false, not_false_eq_true]
  · have hne : ((u.2.1 : Int) != (v.2.1 : Int)) = true := by
      have : ¬ (u.2.1 : Int) = (v.2.1 : Int) := by omega
      simpa using this
    refine ⟨w, g16_call ?_, Fr.refl _ _⟩
    have hd : decide (a = b) = false := by
      have : ¬ a = b := fun e => hlen (by rw [e])
      simpa using this
    unfold g16
    rw [hd]
    simp only [hne, Option.bind_some, asP_pointer, asB_bool, asI_int, asS_string, asSl_slice, asM_map, asTup0, asTup1, asTup2, asTup3, asTup4, asTup5, getD0, getD1, getD2, getD3, getD4, Bool.not_true, Bool.not_false, Bool.false_eq_true, Bool.true_eq_false, ↓reduceIte, decide_true, decide_false, Option.isNone_some, Option.isNone_none, Option.isSome_some, Option.isSome_none, beq_self_eq_true, bne_self_eq_false, Bool.and_true, Bool.true_and, Bool.and_false, Bool.false_and, not_true_eq_false, not_false_eq_true]

/-- the document's frame -/
theorem docenc11 {u : Option Addr × Nat × Nat} {p : List Int} (hu : Sl8 w u p) (hz : Zs p) (hl : p.length ≤ 4096) :
    ∃ v' w', callF Try.prog 13 #[.slice u.1 u.2.1 u.2.2] w = some (.tuple #[.slice v'.1 v'.2.1 v'.2.2, .int .i64 0], w') ∧ Own w' 5 1 v' ((enc p).map (Value.int .u8)) ∧ Fr [] w w' ∧ (∀ y ∈ blkOf v', w.heap.size ≤ y) := by
  have hpl := hu.1
  obtain ⟨w1, e1, o1, f1⟩ := fixed22 (w := w) (n := (p.length : Int)) (by omega)
  have e2 := ref12 (w := w1) (s := 0) (by decide) (hu.fr2 f1 (by simp)) hz (by omega)
  obtain ⟨w3, e3, o3, f3⟩ := fixed22 (w := w1) (more_range 0 p)
  have o13 := o1.fr f3 (by simp)
  obtain ⟨v4, w4, e4, o4, f4, h4⟩ := app8 o13 o3.slI (by simp [le4]) #[false, false]
  have F3 := f1.trans f3
  have hs1 : w.heap.size < w1.heap.size := o1.lt _ (by simp [blkOf])
  have hb4 : ∀ y ∈ blkOf v4, w.heap.size ≤ y := by
    intro y hy
    rcases h4 with h | h
    · simp only [blkOf] at hy; rw [h] at hy; simp at hy; omega
    · rw [h] at hy; simp at hy; have := f3.size; omega
  have F4 : Fr [] w w4 := (F3.nil.trans f4).mono (by intro y hy hlt; simp [blkOf] at hy; omega)
  obtain ⟨v5, w5, e5, o5, f5, h5⟩ := app8 o4 (hu.fr2 F4 (by simp)) (by simp [le4]; omega) #[false, false]
  have F5 : Fr [] w w5 := (F4.nil.trans f5).mono (by intro y hy hlt; have := hb4 y hy; omega)
  refine ⟨v5, w5, g13_call ?_, o5, F5, ?_⟩
  · have hc : ¬ (u.2.1 : Int) > 4096 := by omega
    have hw : IntKind.u32.wrap (u.2.1 : Int) = (p.length : Int) := by rw [w32]; omega
    unfold g13
    simp only at e4
    simp only [hc, hw, e1, e2, e3, e4, e5, Option.bind_some, asP_pointer, asB_bool, asI_int, asS_string, asSl_slice, asM_map, asTup0, asTup1, asTup2, asTup3, asTup4, asTup5, getD0, getD1, getD2, getD3, getD4, Bool.not_true, Bool.not_false, Bool.false_eq_true, Bool.true_eq_false, ↓reduceIte, decide_true, decide_false, Option.isNone_some, Option.isNone_none, Option.isSome_some, Option.isSome_none, beq_self_eq_true, bne_self_eq_false, Bool.and_true, Bool.true_and, Bool.and_false, Bool.false_and, not_true_eq_false, not_false_eq_true]
  · intro y hy
    rcases h5 with h | h
    · have : y ∈ blkOf v4 := by simp only [blkOf] at hy ⊢; rw [h] at hy; exact hy
      exact hb4 y this
    · rw [h] at hy; simp at hy; have := F4.size; omega
end
end Go.Proofs.Ytnflklkjjjlpaaa
