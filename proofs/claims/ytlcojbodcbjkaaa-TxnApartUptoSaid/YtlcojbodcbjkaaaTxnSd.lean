/-
  TxnSd: lemmas on what Go functions of this seat come to (for whatever arguments, as each says). No condition but those that stand in each lemma.
-/
import Derived.Test.YtlcojbodcbjkaaaTxnSc
namespace Go.Proofs.Ytlcojbodcbjkaaa.SQ
open Go Go.Ev
set_option maxRecDepth 100000
set_option linter.unusedVariables false
set_option linter.unusedSimpArgs false

section
variable {q : ShI} {g off : Nat} {W w : World} {d : Array Int}

theorem shift_down (h : J q g off W w d) {a b : Int} {s2 : Bool × Int × Int} {t : Int} {j0 : Nat} (hj : j0 < q.2.1) :
    ∃ t' w', loopS (g76_l32_b q a b s2 t) (j0 : Int) w = some (.exit 4, t', w') ∧ J q g off W w' (Sort.shiftDown Sort.ltInt j0 d) := by
  have hle := h.le
  obtain ⟨e, t, w1, g1, rfl, hJ⟩ := loop_wp (b := g76_l32_b q a b s2 t) (I := fun s x => ∃ (j : Nat) (d' : Array Int), s = (j : Int) ∧ j ≤ j0 ∧ J q g off W x d' ∧ Sort.shiftDown Sort.ltInt j d' = Sort.shiftDown Sort.ltInt j0 d)
    (Q := fun e s x => e = .exit 4 ∧ J q g off W x (Sort.shiftDown Sort.ltInt j0 d)) (fun s => s.toNat)
    (fun s x ⟨j, d', hs, h1, hx, hr⟩ => by
      subst hs
      unfold g76_l32_b
      refine wp_if (fun c => ?_) (fun c => ?_)
      · simp only [decide_eq_true_eq] at c
        obtain ⟨j, rfl⟩ : ∃ j', j = j' + 1 := ⟨j - 1, by omega⟩
        (simp (disch := omega) only [wadd, wadd1, wdbl, wsub, wsub1] at *)
        rw [Nat.add_sub_cancel]
        (refine wp_lt (by (first | assumption | (apply J.drew; assumption) | (apply J.drew; apply J.drew; assumption) | (apply J.drew; apply J.drew; apply J.drew; assumption) | (apply J.drew; apply J.drew; apply J.drew; apply J.drew; assumption) | (apply J.drew; apply J.drew; apply J.drew; apply J.drew; apply J.drew; assumption))) (by omega) (by omega) (wp_bind (asB_bool ..) ?_))
        rw [Sort.shiftDown] at hr
        refine wp_if (fun c2 => ?_) (fun c2 => ?_)
        · rw [if_pos c2] at hr
          exact wp_some (.inr ⟨by simp, rfl, by rw [← hr]; (first | assumption | (apply J.drew; assumption) | (apply J.drew; apply J.drew; assumption) | (apply J.drew; apply J.drew; apply J.drew; assumption) | (apply J.drew; apply J.drew; apply J.drew; apply J.drew; assumption) | (apply J.drew; apply J.drew; apply J.drew; apply J.drew; apply J.drew; assumption))⟩)
        · rw [if_neg c2] at hr
          (refine wp_swap (W := _) (by (first | assumption | (apply J.drew; assumption) | (apply J.drew; apply J.drew; assumption) | (apply J.drew; apply J.drew; apply J.drew; assumption) | (apply J.drew; apply J.drew; apply J.drew; apply J.drew; assumption) | (apply J.drew; apply J.drew; apply J.drew; apply J.drew; apply J.drew; assumption))) (by omega) (by omega) fun _ _ => ?_)
          rename_i hw'
          exact wp_some (.inl ⟨rfl, ⟨j, _, rfl, by omega, hw', hr⟩, by simp only; omega⟩)
      · simp only [decide_eq_true_eq] at c
        have e : j = 0 := by omega
        subst e
        exact wp_some (.inr ⟨by simp, rfl, by rw [← hr]; exact hx⟩))
    (s := (j0 : Int)) (w := w) ⟨j0, d, rfl, Nat.le_refl _, h, rfl⟩
  exact ⟨t, w1, g1, hJ⟩

theorem shift_up (h : J q g off W w d) {a : Int} {b : Nat} {s2 : Bool × Int × Int} {t : Int} (hb : b ≤ q.2.1) {j0 : Nat} (hj : 1 ≤ j0) :
    ∃ t' w', loopS (g76_l57_b (b : Int) q a s2 t) (j0 : Int) w = some (.exit 6, t', w') ∧ J q g off W w' (Sort.shiftUp Sort.ltInt b j0 d) := by
  have hle := h.le
  obtain ⟨e, t, w1, g1, rfl, hJ⟩ := loop_wp (b := g76_l57_b (b : Int) q a s2 t) (I := fun s x => ∃ (j : Nat) (d' : Array Int), s = (j : Int) ∧ j0 ≤ j ∧ J q g off W x d' ∧ Sort.shiftUp Sort.ltInt b j d' = Sort.shiftUp Sort.ltInt b j0 d)
    (Q := fun e s x => e = .exit 6 ∧ J q g off W x (Sort.shiftUp Sort.ltInt b j0 d)) (fun s => ((b : Int) - s).toNat)
    (fun s x ⟨j, d', hs, h1, hx, hr⟩ => by
      subst hs
      unfold g76_l57_b
      rw [Sort.shiftUp] at hr
      refine wp_if (fun c => ?_) (fun c => ?_)
      · simp only [decide_eq_true_eq] at c
        rw [if_pos (by omega)] at hr
        (simp (disch := omega) only [wadd, wadd1, wdbl, wsub, wsub1] at *)
        (refine wp_lt (by (first | assumption | (apply J.drew; assumption) | (apply J.drew; apply J.drew; assumption) | (apply J.drew; apply J.drew; apply J.drew; assumption) | (apply J.drew; apply J.drew; apply J.drew; apply J.drew; assumption) | (apply J.drew; apply J.drew; apply J.drew; apply J.drew; apply J.drew; assumption))) (by omega) (by omega) (wp_bind (asB_bool ..) ?_))
        refine wp_if (fun c2 => ?_) (fun c2 => ?_)
        · rw [if_pos c2] at hr
          exact wp_some (.inr ⟨by simp, rfl, by rw [← hr]; (first | assumption | (apply J.drew; assumption) | (apply J.drew; apply J.drew; assumption) | (apply J.drew; apply J.drew; apply J.drew; assumption) | (apply J.drew; apply J.drew; apply J.drew; apply J.drew; assumption) | (apply J.drew; apply J.drew; apply J.drew; apply J.drew; apply J.drew; assumption))⟩)
        · rw [if_neg c2] at hr
          (refine wp_swap (W := _) (by (first | assumption | (apply J.drew; assumption) | (apply J.drew; apply J.drew; assumption) | (apply J.drew; apply J.drew; apply J.drew; assumption) | (apply J.drew; apply J.drew; apply J.drew; apply J.drew; assumption) | (apply J.drew; apply J.drew; apply J.drew; apply J.drew; apply J.drew; assumption))) (by omega) (by omega) fun _ _ => ?_)
          rename_i hw'
          exact wp_some (.inl ⟨rfl, ⟨j + 1, _, rfl, by omega, hw', hr⟩, by simp only; omega⟩)
      · simp only [decide_eq_true_eq] at c
        rw [if_neg (by omega)] at hr
        exact wp_some (.inr ⟨by simp, rfl, by rw [← hr]; exact hx⟩))
    (s := (j0 : Int)) (w := w) ⟨j0, d, rfl, Nat.le_refl _, h, rfl⟩
  exact ⟨t, w1, g1, hJ⟩
theorem l81_57 : g76_l81_b = g76_l57_b := rfl

theorem scan_sorted (h : J q g off W w d) {a : Int} {b : Nat} {s2 : Bool × Int × Int} (hb : b ≤ q.2.1) {i0 : Nat} (hi : 1 ≤ i0) :
    ∃ w', loopS (g76_l4_b (b : Int) q a s2) (i0 : Int) w = some (.exit 2, ((Sort.scanSorted Sort.ltInt d b i0 : Nat) : Int), w') ∧ J q g off W w' d := by
  have hle := h.le
  obtain ⟨e, t, w1, g1, ⟨rfl, rfl⟩, hJ⟩ := loop_wp (b := g76_l4_b (b : Int) q a s2) (I := fun s x => ∃ (i : Nat), s = (i : Int) ∧ i0 ≤ i ∧ J q g off W x d ∧ Sort.scanSorted Sort.ltInt d b i = Sort.scanSorted Sort.ltInt d b i0)
    (Q := fun e s x => (e = .exit 2 ∧ s = ((Sort.scanSorted Sort.ltInt d b i0 : Nat) : Int)) ∧ J q g off W x d) (fun s => ((b : Int) - s).toNat)
    (fun s x ⟨i, hs, h1, hx, hr⟩ => by
      subst hs
      unfold g76_l4_b
      rw [Sort.scanSorted] at hr
      refine wp_if (fun c => ?_) (fun c => ?_)
      · simp only [decide_eq_true_eq] at c
        (simp (disch := omega) only [wadd, wadd1, wdbl, wsub, wsub1] at *)
        (refine wp_lt (by (first | assumption | (apply J.drew; assumption) | (apply J.drew; apply J.drew; assumption) | (apply J.drew; apply J.drew; apply J.drew; assumption) | (apply J.drew; apply J.drew; apply J.drew; apply J.drew; assumption) | (apply J.drew; apply J.drew; apply J.drew; apply J.drew; apply J.drew; assumption))) (by omega) (by omega) (wp_bind (asB_bool ..) ?_))
        refine wp_if (fun c2 => ?_) (fun c2 => ?_)
        · rw [if_pos (by simp only [Bool.and_eq_true, decide_eq_true_eq]; exact ⟨by omega, c2⟩)] at hr
          exact wp_some (.inl ⟨rfl, ⟨i + 1, rfl, by omega, by (first | assumption | (apply J.drew; assumption) | (apply J.drew; apply J.drew; assumption) | (apply J.drew; apply J.drew; apply J.drew; assumption) | (apply J.drew; apply J.drew; apply J.drew; apply J.drew; assumption) | (apply J.drew; apply J.drew; apply J.drew; apply J.drew; apply J.drew; assumption)), hr⟩, by simp only; omega⟩)
        · rw [if_neg (by simp only [Bool.and_eq_true, decide_eq_true_eq]; exact fun c => c2 c.2)] at hr
          exact wp_some (.inr ⟨by simp, ⟨rfl, by rw [← hr]⟩, by (first | assumption | (apply J.drew; assumption) | (apply J.drew; apply J.drew; assumption) | (apply J.drew; apply J.drew; apply J.drew; assumption) | (apply J.drew; apply J.drew; apply J.drew; apply J.drew; assumption) | (apply J.drew; apply J.drew; apply J.drew; apply J.drew; apply J.drew; assumption))⟩)
      · simp only [decide_eq_true_eq] at c
        rw [if_neg (by simp only [Bool.and_eq_true, decide_eq_true_eq]; omega)] at hr
        exact wp_some (.inr ⟨by simp, ⟨rfl, by rw [← hr]⟩, by (first | assumption | (apply J.drew; assumption) | (apply J.drew; apply J.drew; assumption) | (apply J.drew; apply J.drew; apply J.drew; assumption) | (apply J.drew; apply J.drew; apply J.drew; apply J.drew; assumption) | (apply J.drew; apply J.drew; apply J.drew; apply J.drew; apply J.drew; assumption))⟩))
    (s := (i0 : Int)) (w := w) ⟨i0, rfl, Nat.le_refl _, h, rfl⟩
  exact ⟨w1, g1, hJ⟩
theorem scan_le (d : Array Int) (b : Nat) : ∀ n i : Nat, b - i = n → i ≤ b → i ≤ Sort.scanSorted Sort.ltInt d b i ∧ Sort.scanSorted Sort.ltInt d b i ≤ b := by
  intro n
  induction n with
  | zero =>
    intro i h1 h2
    rw [Sort.scanSorted, if_neg (by simp; omega)]
    omega
  | succ n ih =>
    intro i h1 h2
    rw [Sort.scanSorted]
    split
    · have := ih (i + 1) (by omega) (by omega)
      omega
    · omega

theorem partial76 (h : J q g off W w d) {a b : Nat} (hab : a < b) (hb : b ≤ q.2.1) :
    ∃ w', callF Try.prog 76 #[.slice q.1 q.2.1 q.2.2, .int .i64 (a : Int), .int .i64 (b : Int)] w = some (.bool (Sort.partialInsertionSort Sort.ltInt d a b).2, w') ∧ J q g off W w' (Sort.partialInsertionSort Sort.ltInt d a b).1 := by
  have hle := h.le
  unfold Sort.partialInsertionSort
  obtain ⟨R, hR⟩ : ∃ R, Sort.partialIns Sort.ltInt a b 5 (a + 1) d = R := ⟨_, rfl⟩
  rw [hR]
  obtain ⟨e, t, w1, g1, he, hJ⟩ := loop_wp (b := g76_l1_b q (a : Int) (b : Int)) (I := fun s x => ∃ (f : Bool) (i k : Nat) (d' : Array Int), s = (f, (i : Int), (k : Int)) ∧ a + 1 ≤ i ∧ i ≤ b ∧ k ≤ 5 ∧ J q g off W x d' ∧ Sort.partialIns Sort.ltInt a b (5 - k) i d' = R)
    (Q := fun e s x => (e = .exit 0 ∧ R.2 = false ∨ e = .ret ∧ R.2 = s.1) ∧ J q g off W x R.1) (fun s => (5 - s.2.2).toNat)
    (fun s x ⟨f, i, k, d', hs, hi1, hi2, hk, hx, hr⟩ => by
      subst hs
      unfold g76_l1_b
      refine wp_if (fun c => ?_) (fun c => ?_)
      case refine_2 =>
        simp only [decide_eq_true_eq] at c
        have e : 5 - k = 0 := by omega
        rw [e, Sort.partialIns] at hr
        subst hr
        exact wp_some (.inr ⟨by simp, .inl ⟨rfl, rfl⟩, hx⟩)
      simp only [decide_eq_true_eq] at c
      have e : 5 - k = (5 - (k + 1)) + 1 := by omega
      rw [e, Sort.partialIns] at hr
      simp only [] at hr
      obtain ⟨x1, k1, h1⟩ := scan_sorted hx (a := (a : Int)) (b := b) (s2 := (f, (i : Int), (k : Int))) hb (i0 := i) (by omega)
      show wp (g76_l4 q (a : Int) (b : Int) (f, (i : Int), (k : Int)) (i : Int) x) _
      rw [g76_l4_x2_of k1]
      have S := scan_le d' b _ i rfl hi2
      obtain ⟨t, ht⟩ : ∃ t, Sort.scanSorted Sort.ltInt d' b i = t := ⟨_, rfl⟩
      rw [ht] at S hr ⊢
      unfold g76_l4_x2
      (simp (disch := omega) only [wadd, wadd1, wdbl, wsub, wsub1] at *)
      refine wp_if (fun c => ?_) (fun c => ?_)
      · have c' : t = b := by simp at c; omega
        rw [if_pos c'] at hr
        subst hr
        exact wp_some (.inr ⟨by simp, .inr ⟨rfl, rfl⟩, h1⟩)
      have c' : ¬ t = b := by simp at c; omega
      rw [if_neg c'] at hr
      refine wp_if (fun c => ?_) (fun c => ?_)
      · simp only [decide_eq_true_eq] at c
        rw [if_pos (by omega)] at hr
        subst hr
        exact wp_some (.inr ⟨by simp, .inr ⟨rfl, rfl⟩, h1⟩)
      simp only [decide_eq_true_eq] at c
      rw [if_neg (by omega)] at hr
      try (simp (disch := omega) only [wadd, wadd1, wdbl, wsub, wsub1] at *)
      (refine wp_swap (W := _) (by (first | assumption | (apply J.drew; assumption) | (apply J.drew; apply J.drew; assumption) | (apply J.drew; apply J.drew; apply J.drew; assumption) | (apply J.drew; apply J.drew; apply J.drew; apply J.drew; assumption) | (apply J.drew; apply J.drew; apply J.drew; apply J.drew; apply J.drew; assumption))) (by omega) (by omega) fun _ _ => ?_)
      rename_i y2 hy2
      have goOn : ∀ (y : World) (d2 : Array Int), J q g off W y d2 → Sort.partialIns Sort.ltInt a b (5 - (k + 1)) t d2 = R →
          wp (some (Exit.normal, (f, (t : Int), ((k + 1 : Nat) : Int)), y)) (fun r : Exit × (Bool × Int × Int) × World => r.1 = .normal ∧ (∃ (f : Bool) (i k : Nat) (d' : Array Int), r.2.1 = (f, (i : Int), (k : Int)) ∧ a + 1 ≤ i ∧ i ≤ b ∧ k ≤ 5 ∧ J q g off W r.2.2 d' ∧ Sort.partialIns Sort.ltInt a b (5 - k) i d' = R) ∧ (5 - r.2.1.2.2).toNat < (5 - (k : Int)).toNat ∨ r.1 ≠ .normal ∧ (r.1 = .exit 0 ∧ R.2 = false ∨ r.1 = .ret ∧ R.2 = r.2.1.1) ∧ J q g off W r.2.2 R.1) := by
        intro y d2 hy he
        exact wp_some (.inl ⟨rfl, ⟨f, t, k + 1, d2, rfl, by omega, by omega, by omega, hy, he⟩, by simp only; omega⟩)
      refine wp_if (fun c => ?_) (fun c => ?_)
      · simp only [decide_eq_true_eq] at c
        rw [if_pos (show t - a ≥ 2 by omega)] at hr
        obtain ⟨t3, x3, k3, h3⟩ := shift_down hy2 (a := (a : Int)) (b := (b : Int)) (s2 := (f, (i : Int), (k : Int))) (t := (t : Int)) (j0 := t - 1) (by omega)
        rw [g76_l32_x4_of k3]
        unfold g76_l32_x4
        (simp (disch := omega) only [wadd, wadd1, wdbl, wsub, wsub1] at *)
        refine wp_if (fun c => ?_) (fun c => ?_)
        · simp only [decide_eq_true_eq] at c
          rw [if_pos (show b - t ≥ 2 by omega)] at hr
          obtain ⟨t4, x4, k4, h4⟩ := shift_up h3 (a := (a : Int)) (b := b) (s2 := (f, (i : Int), (k : Int))) (t := (t : Int)) hb (j0 := t + 1) (by omega)
          rw [g76_l57_x6_of k4]
          unfold g76_l57_x6
          (simp (disch := omega) only [wadd, wadd1, wdbl, wsub, wsub1] at *)
          exact goOn _ _ h4 hr
        · simp only [decide_eq_true_eq] at c
          rw [if_neg (show ¬ b - t ≥ 2 by omega)] at hr
          exact goOn _ _ h3 hr
      · simp only [decide_eq_true_eq] at c
        rw [if_neg (show ¬ t - a ≥ 2 by omega)] at hr
        refine wp_if (fun c => ?_) (fun c => ?_)
        · simp only [decide_eq_true_eq] at c
          rw [if_pos (show b - t ≥ 2 by omega)] at hr
          obtain ⟨t4, x4, k4, h4⟩ := shift_up hy2 (a := (a : Int)) (b := b) (s2 := (f, (i : Int), (k : Int))) (t := (t : Int)) hb (j0 := t + 1) (by omega)
          rw [← l81_57] at k4
          rw [g76_l81_x6_of k4]
          unfold g76_l81_x6
          (simp (disch := omega) only [wadd, wadd1, wdbl, wsub, wsub1] at *)
          exact goOn _ _ h4 hr
        · simp only [decide_eq_true_eq] at c
          rw [if_neg (show ¬ b - t ≥ 2 by omega)] at hr
          exact goOn _ _ hy2 hr)
    (s := (false, ((a + 1 : Nat) : Int), ((0 : Nat) : Int))) (w := w) ⟨false, a + 1, 0, d, rfl, Nat.le_refl _, by omega, by omega, h, hR⟩
  obtain ⟨t0, t1, t2⟩ := t
  rcases he with ⟨rfl, he⟩ | ⟨rfl, he⟩
  · refine ⟨w1, g76_call ?_, hJ⟩
    unfold g76
    (simp (disch := omega) only [wadd, wadd1, wdbl, wsub, wsub1] at *)
    rw [he]
    erw [g76_l1_x0_of g1]
    rw [g76_l1_x0]
  · refine ⟨w1, g76_call ?_, hJ⟩
    unfold g76
    (simp (disch := omega) only [wadd, wadd1, wdbl, wsub, wsub1] at *)
    rw [he]
    erw [g76_l1_ret_of g1]
    rw [g76_l1_ret]
end
end Go.Proofs.Ytlcojbodcbjkaaa.SQ
