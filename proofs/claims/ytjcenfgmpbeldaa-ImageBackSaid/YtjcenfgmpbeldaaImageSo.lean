/-
  ImageSo: lemmas on what Go functions of this seat come to (for whatever arguments, as each says). No condition but those that stand in each lemma.
-/
import Derived.Test.YtjcenfgmpbeldaaImageS
namespace Go.Proofs.Ytjcenfgmpbeldaa
open Go Go.Ev
set_option maxRecDepth 100000
set_option linter.unusedVariables false
set_option linter.unusedSimpArgs false

/-! ## the sort of slices of numbers -/
abbrev intsV (l : List Int) : List Value := l.map (Value.int .i64)

theorem isNaN88 (w : World) (x : Int) : callF Try.prog 106 #[.int .i64 x] w = some (.bool false, w) := by
  refine g106_call ?_
  unfold g106
  simp
theorem less77 (w : World) (x y : Int) : callF Try.prog 90 #[.int .i64 x, .int .i64 y] w = some (.bool (decide (x < y)), w) := by
  refine g90_call ?_
  unfold g90
  simp only [isNaN88, obs, asP_pointer, asB_bool, asI_int, asS_string, asSl_slice, asM_map, asTup0, asTup1, asTup2, asTup3, asTup4, asTup5, asTup6, asTup7, asTup8, asTup9, asAgg2, asAgg3, asAgg4, asAgg5, asAgg6, asAgg7, asAgg8, asAgg9, asAgg12, getD0, getD1, getD2, getD3, getD4, getD5, getD6, getD7, getD8, getD9, getD10, getD11, getD12, getD13, getD14, getD15, getD16, getD17, getD18, getD19, Bool.not_true, Bool.not_false, Bool.false_eq_true, Bool.true_eq_false, ↓reduceIte, decide_true, decide_false, Option.isNone_some, Option.isNone_none, Option.isSome_some, Option.isSome_none, beq_self_eq_true, bne_self_eq_false, Bool.and_true, Bool.true_and, Bool.and_false, Bool.false_and, not_true_eq_false, not_false_eq_true]

/-- two elements change places -/
def swp (l : List Int) (i j : Nat) : List Int := (l.set i (l.getD j 0)).set j (l.getD i 0)
theorem swp_perm {l : List Int} {i j : Nat} (hi : i < l.length) (hj : j < l.length) : (swp l i j).Perm l := by
  have := List.set_set_perm (α := Int) hi hj
  unfold swp
  have e1 : l.getD i 0 = l[i] := by simp [hi]
  have e2 : l.getD j 0 = l[j] := by simp [hj]
  rw [e1, e2]
  exact this
theorem swp_get {l : List Int} {i j : Nat} (hi : i < l.length) (hj : j < l.length) (k : Nat) : (swp l i j).getD k 0 = if k = j then l.getD i 0 else if k = i then l.getD j 0 else l.getD k 0 := by
  unfold swp
  simp only [List.getD_eq_getElem?_getD, List.getElem?_set, List.length_set]
  by_cases h1 : j = k
  · subst h1; simp [hj]
  · have h1' : ¬ k = j := fun e => h1 e.symm
    by_cases h2 : i = k
    · subst h2; simp [h1, h1', hi]
    · have h2' : ¬ k = i := fun e => h2 e.symm
      simp [h1, h2, h1', h2']

theorem ints_at {w : World} {q : Option Addr × Nat × Nat} {l : List Int} (h : Own w 3 1 q (intsV l)) {i : Nat} (hi : i < l.length) : ∃ g off, q.1 = some ⟨g, off, none⟩ ∧ idxA q.1 q.2.1 1 (i : Int) = some ⟨g, off + i, none⟩ ∧ w.cell? ⟨g, off + i, none⟩ = some (.int .i64 (l.getD i 0)) := by
  have hl := h.len
  simp only [intsV, List.length_map] at hl
  obtain ⟨g, off, h1, h2⟩ := h.idx (i := i) (by omega)
  refine ⟨g, off, h1, by simpa using h2, ?_⟩
  have := h.get h1 i (by simpa [intsV] using hi)
  rw [this]
  simp [intsV, hi]

theorem ints_swap {w : World} {q : Option Addr × Nat × Nat} {l : List Int} (h : Own w 3 1 q (intsV l)) {i j : Nat} (hi : i < l.length) (hj : j < l.length) :
    ∃ ai aj w1 w2, idxA q.1 q.2.1 1 (i : Int) = some ai ∧ idxA q.1 q.2.1 1 (j : Int) = some aj ∧ w.cell? ai = some (.int .i64 (l.getD i 0)) ∧ w.cell? aj = some (.int .i64 (l.getD j 0)) ∧
      st1 w ai (.int .i64 (l.getD j 0)) = some w1 ∧ st1 w1 aj (.int .i64 (l.getD i 0)) = some w2 ∧ Own w2 3 1 q (intsV (swp l i j)) ∧ Fr (blkOf q) w w2 := by
  obtain ⟨g, off, q1, i1, c1⟩ := ints_at h hi
  obtain ⟨g', off', q1', i2, c2⟩ := ints_at h hj
  rw [q1] at q1'
  cases q1'
  obtain ⟨s1, o1, f1⟩ := h.set q1 (k := i) (by simpa [intsV] using hi) (u := .int .i64 (l.getD j 0)) rfl
  obtain ⟨s2, o2, f2⟩ := o1.set q1 (k := j) (by simpa [intsV] using hj) (u := .int .i64 (l.getD i 0)) rfl
  refine ⟨_, _, _, _, i1, i2, c1, c2, s1, s2, ?_, (f1.app f2).mono (by intro y hy hl; simpa using hy)⟩
  have e : intsV (swp l i j) = ((intsV l).set i (.int .i64 (l.getD j 0))).set j (.int .i64 (l.getD i 0)) := by simp [intsV, swp, List.map_set]
  rw [e]
  exact o2

/-- zs' is zs but for the order of what stands from a to b -/
structure Rs (a b : Nat) (zs zs' : List Int) : Prop where
  perm : zs'.Perm zs
  keep : ∀ k, k < a ∨ b ≤ k → zs'.getD k 0 = zs.getD k 0

theorem Rs.refl (a b : Nat) (zs : List Int) : Rs a b zs zs := ⟨List.Perm.refl _, fun _ _ => rfl⟩
theorem Rs.len {a b : Nat} {zs zs' : List Int} (h : Rs a b zs zs') : zs'.length = zs.length := h.perm.length_eq
theorem Rs.trans {a b : Nat} {zs zs' zs'' : List Int} (h : Rs a b zs zs') (h' : Rs a b zs' zs'') : Rs a b zs zs'' := ⟨h'.perm.trans h.perm, fun k hk => (h'.keep k hk).trans (h.keep k hk)⟩
theorem Rs.mono {a b c d : Nat} {zs zs' : List Int} (h : Rs a b zs zs') (h1 : c ≤ a) (h2 : b ≤ d) : Rs c d zs zs' := ⟨h.perm, fun k hk => h.keep k (by omega)⟩
theorem Rs.swp {a b i j : Nat} {l : List Int} (hi : i < l.length) (hj : j < l.length) (ha : a ≤ i ∧ a ≤ j) (hb : i < b ∧ j < b) : Rs a b l (swp l i j) :=
  ⟨swp_perm hi hj, fun k hk => by rw [swp_get hi hj, if_neg (by omega), if_neg (by omega)]⟩

/-- sorted from a to b -/
def Srt (l : List Int) (a b : Nat) : Prop := ∀ i j, a ≤ i → i < j → j < b → l.getD i 0 ≤ l.getD j 0
/-- sorted from a to b, but for what stands at j, held against those ahead of it -/
def SrtX (l : List Int) (a b x : Nat) : Prop := ∀ i j, a ≤ i → i < j → j < b → j ≠ x → l.getD i 0 ≤ l.getD j 0

theorem SrtX.step {l : List Int} {a b x : Nat} (h : SrtX l a b x) (hb : b ≤ l.length) (hx : x < b) (ha : a < x) (hlt : l.getD x 0 < l.getD (x - 1) 0) : SrtX (swp l x (x - 1)) a b (x - 1) := by
  intro i j h1 h2 h3 h4
  have hxl : x < l.length := by omega
  have hxl' : x - 1 < l.length := by omega
  rw [swp_get hxl hxl', swp_get hxl hxl']
  by_cases j1 : j = x - 1
  · exact absurd j1 h4
  · rw [if_neg j1]
    by_cases j2 : j = x
    · rw [if_pos j2]
      by_cases i1 : i = x - 1
      · rw [if_pos i1]; omega
      · rw [if_neg i1, if_neg (by omega)]
        exact h i (x - 1) h1 (by omega) (by omega) (by omega)
    · rw [if_neg j2]
      by_cases i1 : i = x - 1
      · rw [if_pos i1]; exact h x j (by omega) (by omega) h3 j2
      · rw [if_neg i1]
        by_cases i2 : i = x
        · rw [if_pos i2]; exact h (x - 1) j (by omega) (by omega) h3 j2
        · rw [if_neg i2]; exact h i j h1 h2 h3 j2
theorem SrtX.end_ {l : List Int} {a b x : Nat} (h : SrtX l a b x) (hx : x < b) (hd : x = a ∨ l.getD (x - 1) 0 ≤ l.getD x 0) : Srt l a b := by
  intro i j h1 h2 h3
  by_cases hj : j = x
  · subst hj
    rcases hd with hd | hd
    · omega
    · by_cases hi : i = j - 1
      · rw [hi]; exact hd
      · have := h i (j - 1) h1 (by omega) (by omega) (by omega)
        omega
  · exact h i j h1 h2 h3 hj

theorem ins_in {w : World} {q : Option Addr × Nat × Nat} {l : List Int} {a i : Nat} (u2 : Int) (hw : Own w 3 1 q (intsV l)) (hai : a ≤ i) (hi : i < l.length) (hn : l.length < 4611686018427387904) (hs : Srt l a i) :
    ∃ t l' w', loopS (g84_l4_b (a : Int) q u2 (i : Int)) (i : Int) w = some (.exit 2, t, w') ∧ Own w' 3 1 q (intsV l') ∧ Fr (blkOf q) w w' ∧ Rs a (i + 1) l l' ∧ Srt l' a (i + 1) := by
  have hq := hw.len
  simp only [intsV, List.length_map] at hq
  obtain ⟨e, t, w', g1, rfl, l', o, f, r, s⟩ := loopS_meas (b := g84_l4_b (a : Int) q u2 (i : Int)) (fun s => s.toNat)
    (I := fun s x => ∃ j : Nat, ∃ l', s = (j : Int) ∧ a ≤ j ∧ j ≤ i ∧ Own x 3 1 q (intsV l') ∧ Fr (blkOf q) w x ∧ Rs a (i + 1) l l' ∧ SrtX l' a (i + 1) j)
    (Q := fun e s x => e = .exit 2 ∧ ∃ l', Own x 3 1 q (intsV l') ∧ Fr (blkOf q) w x ∧ Rs a (i + 1) l l' ∧ Srt l' a (i + 1))
    (fun s x ⟨j, l', hs, haj, hji, ho, hf, hr, hx⟩ => by
      subst hs
      have hll := hr.len
      have fd : Fr [] x x.drew := Fr.drew [] x
      by_cases hja : a < j
      · have k1 : decide ((j : Int) > (a : Int)) = true := by simp; omega
        have hw1 : IntKind.i64.wrap ((j : Int) - 1) = ((j - 1 : Nat) : Int) := by
          rw [wrap_i64 (by omega) (by omega)]; omega
        have hod := ho.fr fd (by simp)
        obtain ⟨aj, ai, w1, w2, i1, i2, c1, c2, s1, s2, o2, f2⟩ := ints_swap (hod.fr (Fr.drew [] x.drew) (by simp)) (i := j) (j := j - 1) (by omega) (by omega)
        have c1' : x.drew.cell? aj = some (.int .i64 (l'.getD j 0)) := c1
        have c2' : x.drew.cell? ai = some (.int .i64 (l'.getD (j - 1) 0)) := c2
        by_cases hlt : l'.getD j 0 < l'.getD (j - 1) 0
        · have k2 : decide (l'.getD j 0 < l'.getD (j - 1) 0) = true := by simp only [decide_eq_true_eq]; exact hlt
          have fdd : Fr [] x.drew x.drew.drew := Fr.drew [] x.drew
          refine ⟨.normal, ((j - 1 : Nat) : Int), w2, ?_, .inl ⟨rfl, ⟨j - 1, swp l' j (j - 1), rfl, by omega, by omega, o2, ?_, hr.trans (Rs.swp (by omega) (by omega) (by omega) (by omega)), hx.step (by omega) (by omega) hja hlt⟩, by simp; omega⟩⟩
          · unfold g84_l4_b
            simp only [k1, i1, c1', hw1, i2, c2', less77, k2, c1, c2, s1, s2, obs, asP_pointer, asB_bool, asI_int, asS_string, asSl_slice, asM_map, asTup0, asTup1, asTup2, asTup3, asTup4, asTup5, asTup6, asTup7, asTup8, asTup9, asAgg2, asAgg3, asAgg4, asAgg5, asAgg6, asAgg7, asAgg8, asAgg9, asAgg12, getD0, getD1, getD2, getD3, getD4, getD5, getD6, getD7, getD8, getD9, getD10, getD11, getD12, getD13, getD14, getD15, getD16, getD17, getD18, getD19, Bool.not_true, Bool.not_false, Bool.false_eq_true, Bool.true_eq_false, ↓reduceIte, decide_true, decide_false, Option.isNone_some, Option.isNone_none, Option.isSome_some, Option.isSome_none, beq_self_eq_true, bne_self_eq_false, Bool.and_true, Bool.true_and, Bool.and_false, Bool.false_and, not_true_eq_false, not_false_eq_true]
          · have := ((hf.app fd).app fdd).app f2
            exact this.mono (by intro y hy _; simpa using hy)
        · have k2 : decide (l'.getD j 0 < l'.getD (j - 1) 0) = false := by simp only [decide_eq_false_iff_not]; exact hlt
          refine ⟨.exit 2, (j : Int), x.drew, ?_, .inr ⟨by simp, rfl, l', hod, (hf.app fd).mono (by intro y hy _; simpa using hy), hr, hx.end_ (by omega) (.inr (by omega))⟩⟩
          unfold g84_l4_b
          simp only [k1, i1, c1', hw1, i2, c2', less77, k2, obs, asP_pointer, asB_bool, asI_int, asS_string, asSl_slice, asM_map, asTup0, asTup1, asTup2, asTup3, asTup4, asTup5, asTup6, asTup7, asTup8, asTup9, asAgg2, asAgg3, asAgg4, asAgg5, asAgg6, asAgg7, asAgg8, asAgg9, asAgg12, getD0, getD1, getD2, getD3, getD4, getD5, getD6, getD7, getD8, getD9, getD10, getD11, getD12, getD13, getD14, getD15, getD16, getD17, getD18, getD19, Bool.not_true, Bool.not_false, Bool.false_eq_true, Bool.true_eq_false, ↓reduceIte, decide_true, decide_false, Option.isNone_some, Option.isNone_none, Option.isSome_some, Option.isSome_none, beq_self_eq_true, bne_self_eq_false, Bool.and_true, Bool.true_and, Bool.and_false, Bool.false_and, not_true_eq_false, not_false_eq_true]
      · have k1 : decide ((j : Int) > (a : Int)) = false := by simp; omega
        refine ⟨.exit 2, (j : Int), x.drew, ?_, .inr ⟨by simp, rfl, l', ho.fr fd (by simp), (hf.app fd).mono (by intro y hy _; simpa using hy), hr, hx.end_ (by omega) (.inl (by omega))⟩⟩
        unfold g84_l4_b
        simp only [k1, obs, asP_pointer, asB_bool, asI_int, asS_string, asSl_slice, asM_map, asTup0, asTup1, asTup2, asTup3, asTup4, asTup5, asTup6, asTup7, asTup8, asTup9, asAgg2, asAgg3, asAgg4, asAgg5, asAgg6, asAgg7, asAgg8, asAgg9, asAgg12, getD0, getD1, getD2, getD3, getD4, getD5, getD6, getD7, getD8, getD9, getD10, getD11, getD12, getD13, getD14, getD15, getD16, getD17, getD18, getD19, Bool.not_true, Bool.not_false, Bool.false_eq_true, Bool.true_eq_false, ↓reduceIte, decide_true, decide_false, Option.isNone_some, Option.isNone_none, Option.isSome_some, Option.isSome_none, beq_self_eq_true, bne_self_eq_false, Bool.and_true, Bool.true_and, Bool.and_false, Bool.false_and, not_true_eq_false, not_false_eq_true])
    (s := (i : Int)) (w := w) ⟨i, l, rfl, hai, Nat.le_refl _, hw, Fr.refl _ _, Rs.refl _ _ _, fun x y h1 h2 h3 h4 => hs x y h1 h2 (by omega)⟩
  exact ⟨t, l', w', g1, o, f, r, s⟩

theorem ins71 {w : World} {q : Option Addr × Nat × Nat} {l : List Int} {a b : Nat} (hw : Own w 3 1 q (intsV l)) (hab : a ≤ b) (hb : b ≤ l.length) (hn : l.length < 4611686018427387904) :
    ∃ l' w', callF Try.prog 84 #[.slice q.1 q.2.1 q.2.2, .int .i64 (a : Int), .int .i64 (b : Int)] w = some (.tuple #[], w') ∧ Own w' 3 1 q (intsV l') ∧ Fr (blkOf q) w w' ∧ Rs a b l l' ∧ Srt l' a b := by
  by_cases hab1 : a + 1 ≤ b
  · obtain ⟨t, w', g1, rfl, l', o, f, r, s⟩ := loopS_countX 0 (b := g84_l1_b (b : Int) q (a : Int)) (I := fun k s x => s = (k : Int) ∧ ∃ l', Own x 3 1 q (intsV l') ∧ Fr (blkOf q) w x ∧ Rs a b l l' ∧ (a ≤ k → Srt l' a k) ∧ a + 1 ≤ k) (n := b)
      (fun k s x hk ⟨hs, l', ho, hf, hr, hsr, hak⟩ => by
        subst hs
        have hll := hr.len
        obtain ⟨t, l2, x', g1, o2, f2, r2, s2⟩ := ins_in (b : Int) ho (by omega) (by omega) (by omega) (hsr (by omega))
        have hwk := wrap_succ (n := k) (by omega)
        refine ⟨_, x', ?_, rfl, l2, o2, (hf.app f2).mono (by intro y hy _; simpa using hy), hr.trans (r2.mono (by omega) (by omega)), fun _ => s2, by omega⟩
        unfold g84_l1_b
        have k1 : decide ((k : Int) < (b : Int)) = true := by simp; omega
        simp only [k1, if_true]
        rw [g84_l4_x2_of g1, g84_l4_x2, hwk])
      (fun s x ⟨hs, _⟩ => by
        subst hs
        unfold g84_l1_b
        simp) (k := a + 1) (s := ((a + 1 : Nat) : Int)) (w := w) hab1 ⟨rfl, l, hw, Fr.refl _ _, Rs.refl _ _ _, fun _ i j h1 h2 h3 => by omega, Nat.le_refl _⟩
    refine ⟨l', w', g84_call ?_, o, f, r, s.1 hab⟩
    unfold g84
    rw [wrap_succ (n := a) (by omega), g84_l1_x0_of g1, g84_l1_x0]
  · refine ⟨l, w, g84_call ?_, hw, Fr.refl _ _, Rs.refl _ _ _, fun i j h1 h2 h3 => by omega⟩
    have g1 : loopS (g84_l1_b (b : Int) q (a : Int)) ((a + 1 : Nat) : Int) w = some (.exit 0, ((a + 1 : Nat) : Int), w) := by
      obtain ⟨t, w', g1, rfl, rfl⟩ := loopS_countX 0 (b := g84_l1_b (b : Int) q (a : Int)) (I := fun k s x => s = ((a + 1 : Nat) : Int) ∧ x = w) (n := 0) (fun k s x hk _ => by omega)
        (fun s x ⟨hs, hx⟩ => by
          subst hs
          unfold g84_l1_b
          have k1 : decide (((a + 1 : Nat) : Int) < (b : Int)) = false := by simp; omega
          simp only [k1, Bool.false_eq_true, if_false]) (k := 0) (s := ((a + 1 : Nat) : Int)) (w := w) (Nat.le_refl _) ⟨rfl, rfl⟩
      exact g1
    unfold g84
    rw [wrap_succ (n := a) (by omega), g84_l1_x0_of g1, g84_l1_x0]
end Go.Proofs.Ytjcenfgmpbeldaa
