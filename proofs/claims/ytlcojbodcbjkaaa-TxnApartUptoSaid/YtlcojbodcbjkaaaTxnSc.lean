/-
  TxnSc: lemmas on what Go functions of this seat come to (for whatever arguments, as each says). No condition but those that stand in each lemma.
-/
import Derived.Test.YtlcojbodcbjkaaaTxnSb
namespace Go.Proofs.Ytlcojbodcbjkaaa.SQ
open Go Go.Ev
set_option maxRecDepth 100000
set_option linter.unusedVariables false
set_option linter.unusedSimpArgs false

section
variable {q : ShI} {g off : Nat} {W w : World} {d : Array Int}

/-- a scan upwards -/
theorem scan_up {b : Int → World → Option (Exit × Int × World)} {E : Exit} (hE : E ≠ .normal) {p : Int → Bool} {j : Nat} {i0 : Nat}
    (hb : ∀ (i : Nat) x, i0 ≤ i → i ≤ i0 ∨ i ≤ j + 1 → J q g off W x d → wp (b (i : Int) x) (fun r => J q g off W r.2.2 d ∧ (r.1, r.2.1) = if i ≤ j ∧ p d[i]! = true then (Exit.normal, ((i + 1 : Nat) : Int)) else (E, (i : Int))))
    (h : J q g off W w d) : ∃ w', loopS b (i0 : Int) w = some (E, ((Sort.scanUp p d j i0 : Nat) : Int), w') ∧ J q g off W w' d := by
  obtain ⟨e, t, w1, g1, ⟨rfl, rfl⟩, hJ⟩ := loop_wp (b := b) (I := fun s x => ∃ i : Nat, s = (i : Int) ∧ i0 ≤ i ∧ (i ≤ i0 ∨ i ≤ j + 1) ∧ J q g off W x d ∧ Sort.scanUp p d j i = Sort.scanUp p d j i0)
    (Q := fun e s x => (e = E ∧ s = ((Sort.scanUp p d j i0 : Nat) : Int)) ∧ J q g off W x d) (fun s => ((j : Int) + 1 - s).toNat)
    (fun s x ⟨i, hs, h1, h2, hx, hr⟩ => by
      subst hs
      refine wp_mono (hb i x h1 h2 hx) ?_
      rintro ⟨e, s, y⟩ ⟨hy, he⟩
      by_cases c : i ≤ j ∧ p d[i]! = true
      · rw [if_pos c] at he
        simp only [Prod.mk.injEq] at he
        obtain ⟨rfl, rfl⟩ := he
        refine .inl ⟨rfl, ⟨i + 1, rfl, by omega, by omega, hy, ?_⟩, by simp only; omega⟩
        rw [← hr]
        conv => rhs; rw [Sort.scanUp]
        rw [if_pos (by simp [c.1, c.2])]
      · rw [if_neg c] at he
        simp only [Prod.mk.injEq] at he
        obtain ⟨rfl, rfl⟩ := he
        refine .inr ⟨hE, ⟨rfl, ?_⟩, hy⟩
        rw [← hr, Sort.scanUp, if_neg (by simpa using c)])
    (s := (i0 : Int)) (w := w) ⟨i0, rfl, Nat.le_refl _, .inl (Nat.le_refl _), h, rfl⟩
  exact ⟨w1, g1, hJ⟩
/-- a scan downwards -/
theorem scan_down {b : Int → World → Option (Exit × Int × World)} {E : Exit} (hE : E ≠ .normal) {p : Int → Bool} {i : Nat} (hi : 1 ≤ i) {j0 : Nat}
    (hb : ∀ (j : Nat) x, j ≤ j0 → J q g off W x d → wp (b (j : Int) x) (fun r => J q g off W r.2.2 d ∧ (r.1, r.2.1) = if i ≤ j ∧ p d[j]! = true then (Exit.normal, ((j - 1 : Nat) : Int)) else (E, (j : Int))))
    (h : J q g off W w d) : ∃ w', loopS b (j0 : Int) w = some (E, ((Sort.scanDown p d i j0 : Nat) : Int), w') ∧ J q g off W w' d := by
  obtain ⟨e, t, w1, g1, ⟨rfl, rfl⟩, hJ⟩ := loop_wp (b := b) (I := fun s x => ∃ j : Nat, s = (j : Int) ∧ j ≤ j0 ∧ J q g off W x d ∧ Sort.scanDown p d i j = Sort.scanDown p d i j0)
    (Q := fun e s x => (e = E ∧ s = ((Sort.scanDown p d i j0 : Nat) : Int)) ∧ J q g off W x d) (fun s => s.toNat)
    (fun s x ⟨j, hs, h1, hx, hr⟩ => by
      subst hs
      refine wp_mono (hb j x h1 hx) ?_
      rintro ⟨e, s, y⟩ ⟨hy, he⟩
      by_cases c : i ≤ j ∧ p d[j]! = true
      · rw [if_pos c] at he
        simp only [Prod.mk.injEq] at he
        obtain ⟨rfl, rfl⟩ := he
        obtain ⟨j, rfl⟩ : ∃ j', j = j' + 1 := ⟨j - 1, by omega⟩
        refine .inl ⟨rfl, ⟨j, by simp only; omega, by omega, hy, ?_⟩, by simp only; omega⟩
        rw [← hr]
        conv => rhs; rw [Sort.scanDown]
        rw [if_pos (by simp [c.1, c.2])]
      · rw [if_neg c] at he
        simp only [Prod.mk.injEq] at he
        obtain ⟨rfl, rfl⟩ := he
        refine .inr ⟨hE, ⟨rfl, ?_⟩, hy⟩
        rw [← hr]
        cases j with
        | zero => rfl
        | succ j => rw [Sort.scanDown, if_neg (by simpa using c)])
    (s := (j0 : Int)) (w := w) ⟨j0, rfl, Nat.le_refl _, h, rfl⟩
  exact ⟨w1, g1, hJ⟩

theorem partEq78 (h : J q g off W w d) {a b p : Nat} (hab : a < b) (hb : b ≤ q.2.1) (hp : a ≤ p ∧ p < b) :
    ∃ (w' : World), callF Try.prog 78 #[.slice q.1 q.2.1 q.2.2, .int .i64 (a : Int), .int .i64 (b : Int), .int .i64 (p : Int)] w = some (.int .i64 ((Sort.partitionEqual Sort.ltInt d a b p).1 : Int), w') ∧ J q g off W w' (Sort.partitionEqual Sort.ltInt d a b p).2 := by
  have hle := h.le
  have H : wp (g78 q (a : Int) (b : Int) (p : Int) w) (fun r => r.1 = .int .i64 ((Sort.partitionEqual Sort.ltInt d a b p).1 : Int) ∧ J q g off W r.2 (Sort.partitionEqual Sort.ltInt d a b p).2) := by
    unfold g78
    (simp (disch := omega) only [wadd, wadd1, wdbl, wsub, wsub1] at *)
    (refine wp_swap (W := _) (by (first | assumption | (apply J.drew; assumption) | (apply J.drew; apply J.drew; assumption) | (apply J.drew; apply J.drew; apply J.drew; assumption) | (apply J.drew; apply J.drew; apply J.drew; apply J.drew; assumption) | (apply J.drew; apply J.drew; apply J.drew; apply J.drew; apply J.drew; assumption))) (by omega) (by omega) fun _ _ => ?_)
    rename_i y2 hy2
    obtain ⟨e, t, w1, g1, ⟨rfl, ht⟩, hJ⟩ := loop_wp (b := g78_l11_b q (a : Int)) (I := fun s x => ∃ (i j : Nat) (d' : Array Int), s = ((i : Int), (j : Int)) ∧ (a < i ∧ i ≤ j + 2 ∧ j < b) ∧ J q g off W x d' ∧ Sort.partEqLoop Sort.ltInt a i j d' = Sort.partitionEqual Sort.ltInt d a b p)
      (Q := fun e s x => (e = .exit 0 ∧ s.1 = ((Sort.partitionEqual Sort.ltInt d a b p).1 : Int)) ∧ J q g off W x (Sort.partitionEqual Sort.ltInt d a b p).2) (fun s => (s.2 - s.1 + 2).toNat)
      (fun s x ⟨i, j, d', hs, hij, hx, hr⟩ => by
        subst hs
        unfold g78_l11_b
        obtain ⟨x1, k1, h1⟩ := scan_up (b := g78_l14_b ((i : Int), (j : Int)) q (a : Int)) (E := .exit 2) (by simp) (p := fun x => !Sort.ltInt d'[a]! x) (j := j) (i0 := i) (fun i' y c1 c2 hy => by
          unfold g78_l14_b
          refine wp_if (fun c => ?_) (fun c => ?_)
          · simp only [decide_eq_true_eq] at c
            (refine wp_lt (by (first | assumption | (apply J.drew; assumption) | (apply J.drew; apply J.drew; assumption) | (apply J.drew; apply J.drew; apply J.drew; assumption) | (apply J.drew; apply J.drew; apply J.drew; apply J.drew; assumption) | (apply J.drew; apply J.drew; apply J.drew; apply J.drew; apply J.drew; assumption))) (by omega) (by omega) (wp_bind (asB_bool ..) ?_))
            refine wp_if (fun c2 => ?_) (fun c2 => ?_)
            · (simp (disch := omega) only [wadd, wadd1, wdbl, wsub, wsub1] at *)
              refine wp_some ⟨by (first | assumption | (apply J.drew; assumption) | (apply J.drew; apply J.drew; assumption) | (apply J.drew; apply J.drew; apply J.drew; assumption) | (apply J.drew; apply J.drew; apply J.drew; apply J.drew; assumption) | (apply J.drew; apply J.drew; apply J.drew; apply J.drew; apply J.drew; assumption)), ?_⟩
              rw [if_pos ⟨by omega, c2⟩]
            · refine wp_some ⟨by (first | assumption | (apply J.drew; assumption) | (apply J.drew; apply J.drew; assumption) | (apply J.drew; apply J.drew; apply J.drew; assumption) | (apply J.drew; apply J.drew; apply J.drew; apply J.drew; assumption) | (apply J.drew; apply J.drew; apply J.drew; apply J.drew; apply J.drew; assumption)), ?_⟩
              rw [if_neg (fun c => c2 c.2)]
          · simp only [decide_eq_true_eq] at c
            refine wp_some ⟨by (first | assumption | (apply J.drew; assumption) | (apply J.drew; apply J.drew; assumption) | (apply J.drew; apply J.drew; apply J.drew; assumption) | (apply J.drew; apply J.drew; apply J.drew; apply J.drew; assumption) | (apply J.drew; apply J.drew; apply J.drew; apply J.drew; apply J.drew; assumption)), ?_⟩
            rw [if_neg (by omega)]) hx
        show wp (g78_l14 q (a : Int) ((i : Int), (j : Int)) (i : Int) x) _
        rw [g78_l14_x2_of k1]
        unfold g78_l14_x2
        have S1 := Sort.scanUp_spec (fun x => !Sort.ltInt d'[a]! x) d' j _ i rfl
        obtain ⟨i2, hi2⟩ : ∃ i2, Sort.scanUp (fun x => !Sort.ltInt d'[a]! x) d' j i = i2 := ⟨_, rfl⟩
        rw [hi2] at S1 ⊢
        obtain ⟨x2, k2, h2⟩ := scan_down (b := g78_l31_b (i2 : Int) q (a : Int)) (E := .exit 4) (by simp) (p := fun x => Sort.ltInt d'[a]! x) (i := i2) (by omega) (j0 := j) (fun j' y c1 hy => by
          unfold g78_l31_b
          refine wp_if (fun c => ?_) (fun c => ?_)
          · simp only [decide_eq_true_eq] at c
            (refine wp_lt (by (first | assumption | (apply J.drew; assumption) | (apply J.drew; apply J.drew; assumption) | (apply J.drew; apply J.drew; apply J.drew; assumption) | (apply J.drew; apply J.drew; apply J.drew; apply J.drew; assumption) | (apply J.drew; apply J.drew; apply J.drew; apply J.drew; apply J.drew; assumption))) (by omega) (by omega) (wp_bind (asB_bool ..) ?_))
            refine wp_if (fun c2 => ?_) (fun c2 => ?_)
            · (simp (disch := omega) only [wadd, wadd1, wdbl, wsub, wsub1] at *)
              refine wp_some ⟨by (first | assumption | (apply J.drew; assumption) | (apply J.drew; apply J.drew; assumption) | (apply J.drew; apply J.drew; apply J.drew; assumption) | (apply J.drew; apply J.drew; apply J.drew; apply J.drew; assumption) | (apply J.drew; apply J.drew; apply J.drew; apply J.drew; apply J.drew; assumption)), ?_⟩
              rw [if_pos ⟨by omega, c2⟩]
            · refine wp_some ⟨by (first | assumption | (apply J.drew; assumption) | (apply J.drew; apply J.drew; assumption) | (apply J.drew; apply J.drew; apply J.drew; assumption) | (apply J.drew; apply J.drew; apply J.drew; apply J.drew; assumption) | (apply J.drew; apply J.drew; apply J.drew; apply J.drew; apply J.drew; assumption)), ?_⟩
              rw [if_neg (fun c => c2 c.2)]
          · simp only [decide_eq_true_eq] at c
            refine wp_some ⟨by (first | assumption | (apply J.drew; assumption) | (apply J.drew; apply J.drew; assumption) | (apply J.drew; apply J.drew; apply J.drew; assumption) | (apply J.drew; apply J.drew; apply J.drew; apply J.drew; assumption) | (apply J.drew; apply J.drew; apply J.drew; apply J.drew; apply J.drew; assumption)), ?_⟩
            rw [if_neg (by omega)]) h1
        show wp (g78_l31 q (a : Int) (i2 : Int) (j : Int) x1) _
        rw [g78_l31_x4_of k2]
        unfold g78_l31_x4
        have S2 := Sort.scanDown_spec (fun x => Sort.ltInt d'[a]! x) d' i2 j
        have R := Sort.partEqLoop_eq Sort.ltInt a i j d'
        rw [hi2] at R
        obtain ⟨j2, hj2⟩ : ∃ j2, Sort.scanDown (fun x => Sort.ltInt d'[a]! x) d' i2 j = j2 := ⟨_, rfl⟩
        rw [hj2] at S2 R ⊢
        rw [hr] at R
        refine wp_if (fun c => ?_) (fun c => ?_)
        · simp only [decide_eq_true_eq] at c
          rw [if_pos (by omega)] at R
          refine wp_some (.inr ⟨by simp, ⟨rfl, ?_⟩, ?_⟩)
          · rw [R]
          · rw [R]; exact h2
        · simp only [decide_eq_true_eq] at c
          rw [if_neg (by omega)] at R
          (refine wp_swap (W := _) (by (first | assumption | (apply J.drew; assumption) | (apply J.drew; apply J.drew; assumption) | (apply J.drew; apply J.drew; apply J.drew; assumption) | (apply J.drew; apply J.drew; apply J.drew; apply J.drew; assumption) | (apply J.drew; apply J.drew; apply J.drew; apply J.drew; apply J.drew; assumption))) (by omega) (by omega) fun _ _ => ?_)
          rename_i y3 hy3
          (simp (disch := omega) only [wadd, wadd1, wdbl, wsub, wsub1] at *)
          exact wp_some (.inl ⟨rfl, ⟨i2 + 1, j2 - 1, _, rfl, by omega, hy3, R.symm⟩, by simp only; omega⟩))
      (s := (((a + 1 : Nat) : Int), ((b - 1 : Nat) : Int))) (w := y2) ⟨a + 1, b - 1, _, rfl, by omega, hy2, rfl⟩
    rw [g78_l11_x0_of g1, g78_l11_x0]
    exact wp_some ⟨by rw [ht], hJ⟩
  obtain ⟨⟨v, w'⟩, e, rfl, hJ⟩ := H
  exact ⟨w', g78_call e, hJ⟩

theorem part79 (h : J q g off W w d) {a b p : Nat} (hab : a < b) (hb : b ≤ q.2.1) (hp : a ≤ p ∧ p < b) :
    ∃ (w' : World), callF Try.prog 79 #[.slice q.1 q.2.1 q.2.2, .int .i64 (a : Int), .int .i64 (b : Int), .int .i64 (p : Int)] w = some (.tuple #[.int .i64 ((Sort.partition Sort.ltInt d a b p).1 : Int), .bool (Sort.partition Sort.ltInt d a b p).2.1], w') ∧ J q g off W w' (Sort.partition Sort.ltInt d a b p).2.2 := by
  have hle := h.le
  have H : wp (g79 q (a : Int) (b : Int) (p : Int) w) (fun r => r.1 = .tuple #[.int .i64 ((Sort.partition Sort.ltInt d a b p).1 : Int), .bool (Sort.partition Sort.ltInt d a b p).2.1] ∧ J q g off W r.2 (Sort.partition Sort.ltInt d a b p).2.2) := by
    unfold Sort.partition
    unfold g79
    (simp (disch := omega) only [wadd, wadd1, wdbl, wsub, wsub1] at *)
    (refine wp_swap (W := _) (by (first | assumption | (apply J.drew; assumption) | (apply J.drew; apply J.drew; assumption) | (apply J.drew; apply J.drew; apply J.drew; assumption) | (apply J.drew; apply J.drew; apply J.drew; apply J.drew; assumption) | (apply J.drew; apply J.drew; apply J.drew; apply J.drew; apply J.drew; assumption))) (by omega) (by omega) fun _ _ => ?_)
    rename_i y2 hy2
    obtain ⟨d1, hd1⟩ : ∃ d1, Sort.swp d a p = d1 := ⟨_, rfl⟩
    rw [hd1] at hy2 ⊢
    skip
    obtain ⟨x1, k1, h1⟩ := scan_up (b := g79_l11_b (b : Int) q (a : Int)) (E := .exit 0) (by simp) (p := fun x => Sort.ltInt x d1[a]!) (j := b - 1) (i0 := a + 1) (fun i' y c1 c2 hy => by
          unfold g79_l11_b
          try (simp (disch := omega) only [wadd, wadd1, wdbl, wsub, wsub1] at *)
          refine wp_if (fun c => ?_) (fun c => ?_)
          · simp only [decide_eq_true_eq] at c
            (refine wp_lt (by (first | assumption | (apply J.drew; assumption) | (apply J.drew; apply J.drew; assumption) | (apply J.drew; apply J.drew; apply J.drew; assumption) | (apply J.drew; apply J.drew; apply J.drew; apply J.drew; assumption) | (apply J.drew; apply J.drew; apply J.drew; apply J.drew; apply J.drew; assumption))) (by omega) (by omega) (wp_bind (asB_bool ..) ?_))
            refine wp_if (fun c2 => ?_) (fun c2 => ?_)
            · (simp (disch := omega) only [wadd, wadd1, wdbl, wsub, wsub1] at *)
              refine wp_some ⟨by (first | assumption | (apply J.drew; assumption) | (apply J.drew; apply J.drew; assumption) | (apply J.drew; apply J.drew; apply J.drew; assumption) | (apply J.drew; apply J.drew; apply J.drew; apply J.drew; assumption) | (apply J.drew; apply J.drew; apply J.drew; apply J.drew; apply J.drew; assumption)), ?_⟩
              rw [if_pos ⟨by omega, c2⟩]
            · refine wp_some ⟨by (first | assumption | (apply J.drew; assumption) | (apply J.drew; apply J.drew; assumption) | (apply J.drew; apply J.drew; apply J.drew; assumption) | (apply J.drew; apply J.drew; apply J.drew; apply J.drew; assumption) | (apply J.drew; apply J.drew; apply J.drew; apply J.drew; apply J.drew; assumption)), ?_⟩
              rw [if_neg (fun c => c2 c.2)]
          · simp only [decide_eq_true_eq] at c
            refine wp_some ⟨by (first | assumption | (apply J.drew; assumption) | (apply J.drew; apply J.drew; assumption) | (apply J.drew; apply J.drew; apply J.drew; assumption) | (apply J.drew; apply J.drew; apply J.drew; apply J.drew; assumption) | (apply J.drew; apply J.drew; apply J.drew; apply J.drew; apply J.drew; assumption)), ?_⟩
            rw [if_neg (by omega)]) hy2
    rw [g79_l11_x0_of k1]
    unfold g79_l11_x0
    have S1 := Sort.scanUp_spec (fun x => Sort.ltInt x d1[a]!) d1 (b - 1) _ (a + 1) rfl
    obtain ⟨i2, hi2⟩ : ∃ i2, Sort.scanUp (fun x => Sort.ltInt x d1[a]!) d1 (b - 1) (a + 1) = i2 := ⟨_, rfl⟩
    rw [hi2] at S1 ⊢
    (simp (disch := omega) only [wadd, wadd1, wdbl, wsub, wsub1] at *)
    obtain ⟨x2, k2, h2⟩ := scan_down (b := g79_l27_b (i2 : Int) q (a : Int)) (E := .exit 2) (by simp) (p := fun x => !Sort.ltInt x d1[a]!) (i := i2) (by omega) (j0 := b - 1) (fun j' y c1 hy => by
          unfold g79_l27_b
          try (simp (disch := omega) only [wadd, wadd1, wdbl, wsub, wsub1] at *)
          refine wp_if (fun c => ?_) (fun c => ?_)
          · simp only [decide_eq_true_eq] at c
            (refine wp_lt (by (first | assumption | (apply J.drew; assumption) | (apply J.drew; apply J.drew; assumption) | (apply J.drew; apply J.drew; apply J.drew; assumption) | (apply J.drew; apply J.drew; apply J.drew; apply J.drew; assumption) | (apply J.drew; apply J.drew; apply J.drew; apply J.drew; apply J.drew; assumption))) (by omega) (by omega) (wp_bind (asB_bool ..) ?_))
            refine wp_if (fun c2 => ?_) (fun c2 => ?_)
            · (simp (disch := omega) only [wadd, wadd1, wdbl, wsub, wsub1] at *)
              refine wp_some ⟨by (first | assumption | (apply J.drew; assumption) | (apply J.drew; apply J.drew; assumption) | (apply J.drew; apply J.drew; apply J.drew; assumption) | (apply J.drew; apply J.drew; apply J.drew; apply J.drew; assumption) | (apply J.drew; apply J.drew; apply J.drew; apply J.drew; apply J.drew; assumption)), ?_⟩
              rw [if_pos ⟨by omega, c2⟩]
            · refine wp_some ⟨by (first | assumption | (apply J.drew; assumption) | (apply J.drew; apply J.drew; assumption) | (apply J.drew; apply J.drew; apply J.drew; assumption) | (apply J.drew; apply J.drew; apply J.drew; apply J.drew; assumption) | (apply J.drew; apply J.drew; apply J.drew; apply J.drew; apply J.drew; assumption)), ?_⟩
              rw [if_neg (fun c => c2 c.2)]
          · simp only [decide_eq_true_eq] at c
            refine wp_some ⟨by (first | assumption | (apply J.drew; assumption) | (apply J.drew; apply J.drew; assumption) | (apply J.drew; apply J.drew; apply J.drew; assumption) | (apply J.drew; apply J.drew; apply J.drew; apply J.drew; assumption) | (apply J.drew; apply J.drew; apply J.drew; apply J.drew; apply J.drew; assumption)), ?_⟩
            rw [if_neg (by omega)]) h1
    rw [g79_l27_x2_of k2]
    unfold g79_l27_x2
    have S2 := Sort.scanDown_spec (fun x => !Sort.ltInt x d1[a]!) d1 i2 (b - 1)
    obtain ⟨j2, hj2⟩ : ∃ j2, Sort.scanDown (fun x => !Sort.ltInt x d1[a]!) d1 i2 (b - 1) = j2 := ⟨_, rfl⟩
    rw [hj2] at S2 ⊢
    refine wp_if (fun c => ?_) (fun c => ?_)
    · simp only [decide_eq_true_eq] at c
      rw [if_pos (by omega)]
      (refine wp_swap (W := _) (by (first | assumption | (apply J.drew; assumption) | (apply J.drew; apply J.drew; assumption) | (apply J.drew; apply J.drew; apply J.drew; assumption) | (apply J.drew; apply J.drew; apply J.drew; apply J.drew; assumption) | (apply J.drew; apply J.drew; apply J.drew; apply J.drew; apply J.drew; assumption))) (by omega) (by omega) fun _ _ => ?_)
      exact wp_some ⟨rfl, by (first | assumption | (apply J.drew; assumption) | (apply J.drew; apply J.drew; assumption) | (apply J.drew; apply J.drew; apply J.drew; assumption) | (apply J.drew; apply J.drew; apply J.drew; apply J.drew; assumption) | (apply J.drew; apply J.drew; apply J.drew; apply J.drew; apply J.drew; assumption))⟩
    simp only [decide_eq_true_eq] at c
    rw [if_neg (by omega)]
    (refine wp_swap (W := _) (by (first | assumption | (apply J.drew; assumption) | (apply J.drew; apply J.drew; assumption) | (apply J.drew; apply J.drew; apply J.drew; assumption) | (apply J.drew; apply J.drew; apply J.drew; apply J.drew; assumption) | (apply J.drew; apply J.drew; apply J.drew; apply J.drew; apply J.drew; assumption))) (by omega) (by omega) fun _ _ => ?_)
    rename_i y4 hy4
    (simp (disch := omega) only [wadd, wadd1, wdbl, wsub, wsub1] at *)
    obtain ⟨R, hR⟩ : ∃ R, Sort.partLoop Sort.ltInt a (i2 + 1) (j2 - 1) (Sort.swp d1 i2 j2) = R := ⟨_, rfl⟩
    rw [hR]
    obtain ⟨e, t, w3, g3, ⟨rfl, ht, htb⟩, hJ3⟩ := loop_wp (b := g79_l62_b q (a : Int)) (I := fun s x => ∃ (i j : Nat) (d' : Array Int), s = ((i : Int), (j : Int)) ∧ (a < i ∧ i ≤ j + 2 ∧ j < b) ∧ J q g off W x d' ∧ Sort.partLoop Sort.ltInt a i j d' = R)
      (Q := fun e s x => (e = .exit 4 ∧ s.2 = (R.1 : Int) ∧ R.1 < b) ∧ J q g off W x R.2) (fun s => (s.2 - s.1 + 2).toNat)
      (fun s x ⟨i, j, d', hs, hij, hx, hr⟩ => by
        subst hs
        unfold g79_l62_b
        obtain ⟨x1, k1, h1⟩ := scan_up (b := g79_l65_b ((i : Int), (j : Int)) q (a : Int)) (E := .exit 6) (by simp) (p := fun x => Sort.ltInt x d'[a]!) (j := j) (i0 := i) (fun i' y c1 c2 hy => by
          unfold g79_l65_b
          try (simp (disch := omega) only [wadd, wadd1, wdbl, wsub, wsub1] at *)
          refine wp_if (fun c => ?_) (fun c => ?_)
          · simp only [decide_eq_true_eq] at c
            (refine wp_lt (by (first | assumption | (apply J.drew; assumption) | (apply J.drew; apply J.drew; assumption) | (apply J.drew; apply J.drew; apply J.drew; assumption) | (apply J.drew; apply J.drew; apply J.drew; apply J.drew; assumption) | (apply J.drew; apply J.drew; apply J.drew; apply J.drew; apply J.drew; assumption))) (by omega) (by omega) (wp_bind (asB_bool ..) ?_))
            refine wp_if (fun c2 => ?_) (fun c2 => ?_)
            · (simp (disch := omega) only [wadd, wadd1, wdbl, wsub, wsub1] at *)
              refine wp_some ⟨by (first | assumption | (apply J.drew; assumption) | (apply J.drew; apply J.drew; assumption) | (apply J.drew; apply J.drew; apply J.drew; assumption) | (apply J.drew; apply J.drew; apply J.drew; apply J.drew; assumption) | (apply J.drew; apply J.drew; apply J.drew; apply J.drew; apply J.drew; assumption)), ?_⟩
              rw [if_pos ⟨by omega, c2⟩]
            · refine wp_some ⟨by (first | assumption | (apply J.drew; assumption) | (apply J.drew; apply J.drew; assumption) | (apply J.drew; apply J.drew; apply J.drew; assumption) | (apply J.drew; apply J.drew; apply J.drew; apply J.drew; assumption) | (apply J.drew; apply J.drew; apply J.drew; apply J.drew; apply J.drew; assumption)), ?_⟩
              rw [if_neg (fun c => c2 c.2)]
          · simp only [decide_eq_true_eq] at c
            refine wp_some ⟨by (first | assumption | (apply J.drew; assumption) | (apply J.drew; apply J.drew; assumption) | (apply J.drew; apply J.drew; apply J.drew; assumption) | (apply J.drew; apply J.drew; apply J.drew; apply J.drew; assumption) | (apply J.drew; apply J.drew; apply J.drew; apply J.drew; apply J.drew; assumption)), ?_⟩
            rw [if_neg (by omega)]) hx
        show wp (g79_l65 q (a : Int) ((i : Int), (j : Int)) (i : Int) x) _
        rw [g79_l65_x6_of k1]
        unfold g79_l65_x6
        have S1 := Sort.scanUp_spec (fun x => Sort.ltInt x d'[a]!) d' j _ i rfl
        obtain ⟨i2, hi2⟩ : ∃ i2, Sort.scanUp (fun x => Sort.ltInt x d'[a]!) d' j i = i2 := ⟨_, rfl⟩
        rw [hi2] at S1 ⊢
        obtain ⟨x2, k2, h2⟩ := scan_down (b := g79_l82_b (i2 : Int) q (a : Int)) (E := .exit 8) (by simp) (p := fun x => !Sort.ltInt x d'[a]!) (i := i2) (by omega) (j0 := j) (fun j' y c1 hy => by
          unfold g79_l82_b
          try (simp (disch := omega) only [wadd, wadd1, wdbl, wsub, wsub1] at *)
          refine wp_if (fun c => ?_) (fun c => ?_)
          · simp only [decide_eq_true_eq] at c
            (refine wp_lt (by (first | assumption | (apply J.drew; assumption) | (apply J.drew; apply J.drew; assumption) | (apply J.drew; apply J.drew; apply J.drew; assumption) | (apply J.drew; apply J.drew; apply J.drew; apply J.drew; assumption) | (apply J.drew; apply J.drew; apply J.drew; apply J.drew; apply J.drew; assumption))) (by omega) (by omega) (wp_bind (asB_bool ..) ?_))
            refine wp_if (fun c2 => ?_) (fun c2 => ?_)
            · (simp (disch := omega) only [wadd, wadd1, wdbl, wsub, wsub1] at *)
              refine wp_some ⟨by (first | assumption | (apply J.drew; assumption) | (apply J.drew; apply J.drew; assumption) | (apply J.drew; apply J.drew; apply J.drew; assumption) | (apply J.drew; apply J.drew; apply J.drew; apply J.drew; assumption) | (apply J.drew; apply J.drew; apply J.drew; apply J.drew; apply J.drew; assumption)), ?_⟩
              rw [if_pos ⟨by omega, c2⟩]
            · refine wp_some ⟨by (first | assumption | (apply J.drew; assumption) | (apply J.drew; apply J.drew; assumption) | (apply J.drew; apply J.drew; apply J.drew; assumption) | (apply J.drew; apply J.drew; apply J.drew; apply J.drew; assumption) | (apply J.drew; apply J.drew; apply J.drew; apply J.drew; apply J.drew; assumption)), ?_⟩
              rw [if_neg (fun c => c2 c.2)]
          · simp only [decide_eq_true_eq] at c
            refine wp_some ⟨by (first | assumption | (apply J.drew; assumption) | (apply J.drew; apply J.drew; assumption) | (apply J.drew; apply J.drew; apply J.drew; assumption) | (apply J.drew; apply J.drew; apply J.drew; apply J.drew; assumption) | (apply J.drew; apply J.drew; apply J.drew; apply J.drew; apply J.drew; assumption)), ?_⟩
            rw [if_neg (by omega)]) h1
        show wp (g79_l82 q (a : Int) (i2 : Int) (j : Int) x1) _
        rw [g79_l82_x8_of k2]
        unfold g79_l82_x8
        have S2 := Sort.scanDown_spec (fun x => !Sort.ltInt x d'[a]!) d' i2 j
        have R1 := Sort.partLoop_eq Sort.ltInt a i j d'
        rw [hi2] at R1
        obtain ⟨j2, hj2⟩ : ∃ j2, Sort.scanDown (fun x => !Sort.ltInt x d'[a]!) d' i2 j = j2 := ⟨_, rfl⟩
        rw [hj2] at S2 R1 ⊢
        rw [hr] at R1
        refine wp_if (fun c => ?_) (fun c => ?_)
        · simp only [decide_eq_true_eq] at c
          rw [if_pos (by omega)] at R1
          refine wp_some (.inr ⟨by simp, ⟨rfl, ?_, ?_⟩, ?_⟩)
          · rw [R1]
          · rw [R1]; simp only; omega
          · rw [R1]; exact h2
        · simp only [decide_eq_true_eq] at c
          rw [if_neg (by omega)] at R1
          (refine wp_swap (W := _) (by (first | assumption | (apply J.drew; assumption) | (apply J.drew; apply J.drew; assumption) | (apply J.drew; apply J.drew; apply J.drew; assumption) | (apply J.drew; apply J.drew; apply J.drew; apply J.drew; assumption) | (apply J.drew; apply J.drew; apply J.drew; apply J.drew; apply J.drew; assumption))) (by omega) (by omega) fun _ _ => ?_)
          rename_i y3 hy3
          (simp (disch := omega) only [wadd, wadd1, wdbl, wsub, wsub1] at *)
          exact wp_some (.inl ⟨rfl, ⟨i2 + 1, j2 - 1, _, rfl, by omega, hy3, R1.symm⟩, by simp only; omega⟩))
      (s := (((i2 + 1 : Nat) : Int), ((j2 - 1 : Nat) : Int))) (w := y4) ⟨i2 + 1, j2 - 1, _, rfl, by omega, hy4, hR⟩
    rw [g79_l62_x4_of g3]
    unfold g79_l62_x4
    rw [ht]
    (refine wp_swap (W := _) (by (first | assumption | (apply J.drew; assumption) | (apply J.drew; apply J.drew; assumption) | (apply J.drew; apply J.drew; apply J.drew; assumption) | (apply J.drew; apply J.drew; apply J.drew; apply J.drew; assumption) | (apply J.drew; apply J.drew; apply J.drew; apply J.drew; apply J.drew; assumption))) (by omega) (by omega) fun _ _ => ?_)
    exact wp_some ⟨rfl, by (first | assumption | (apply J.drew; assumption) | (apply J.drew; apply J.drew; assumption) | (apply J.drew; apply J.drew; apply J.drew; assumption) | (apply J.drew; apply J.drew; apply J.drew; apply J.drew; assumption) | (apply J.drew; apply J.drew; apply J.drew; apply J.drew; apply J.drew; assumption))⟩
  obtain ⟨⟨v, w'⟩, e, rfl, hJ⟩ := H
  exact ⟨w', g79_call e, hJ⟩
end
end Go.Proofs.Ytlcojbodcbjkaaa.SQ
