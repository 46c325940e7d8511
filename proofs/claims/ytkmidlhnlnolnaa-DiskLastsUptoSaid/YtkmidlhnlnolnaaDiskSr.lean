/-
  DiskSr: lemmas on what Go functions of this seat come to (for whatever arguments, as each says). No condition but those that stand in each lemma.
-/
import Derived.Test.YtkmidlhnlnolnaaDiskSq
namespace Go.Proofs.Ytkmidlhnlnolnaa
open Go Go.Ev
set_option maxRecDepth 100000
set_option linter.unusedVariables false
set_option linter.unusedSimpArgs false

section
variable {q : ShS} {g off : Nat} {W w : World}

theorem partial47 (h : J q g off W w) {a b : Int} (h0 : 0 ≤ a) (hab : a < b) (hb : b ≤ (q.2.1 : Int)) :
    ∃ r w', callF Try.prog 47 #[.slice q.1 q.2.1 q.2.2, .int .i64 a, .int .i64 b] w = some (.bool r, w') ∧ J q g off W w' := by
  have hle := h.le
  obtain ⟨e, t, w1, g1, he, hJ⟩ := loop_wp (b := g47_l1_b q a b) (I := fun s x => (a + 1 ≤ s.2.1 ∧ s.2.1 ≤ b) ∧ (0 ≤ s.2.2 ∧ s.2.2 ≤ 5) ∧ J q g off W x) (Q := fun e s x => (e = .exit 0 ∨ e = .ret) ∧ J q g off W x) (fun s => (5 - s.2.2).toNat)
    (fun s x ⟨hs, hs2, hx⟩ => by
      obtain ⟨f, i, j⟩ := s
      simp only at hs hs2
      unfold g47_l1_b
      refine wp_if (fun c => ?_) (fun c => wp_some (.inr ⟨by simp, .inl rfl, by jw⟩))
      simp only [decide_eq_true_eq] at c
      -- on to the first pair out of order
      obtain ⟨e, t, x1, g1, rfl, ht, hJ⟩ := loop_wp (b := g47_l4_b b q a (f, i, j)) (I := fun s x => (a + 1 ≤ s ∧ s ≤ b) ∧ J q g off W x) (Q := fun e s x => e = .exit 2 ∧ (a + 1 ≤ s ∧ s ≤ b) ∧ J q g off W x) (fun s => (b - s).toNat)
        (fun s y ⟨hs, hy⟩ => by
          unfold g47_l4_b
          refine wp_if (fun c => ?_) (fun c => wp_some (.inr ⟨by simp, rfl, by om, by jw⟩))
          simp only [decide_eq_true_eq] at c
          try simp (disch := omega) only [wrap_i64]
          sw1; sw1; sw1; sw1; sw1
          refine wp_if (fun c => wp_some (.inl ⟨rfl, ⟨by om, by jw⟩, by om⟩)) (fun c => wp_some (.inr ⟨by simp, rfl, by om, by jw⟩)))
        (s := i) (w := x) ⟨hs, hx⟩
      show wp (g47_l4 q a b (f, i, j) i x) _
      rw [g47_l4_x2_of g1]
      unfold g47_l4_x2
      try simp (disch := omega) only [wrap_i64]
      refine wp_if (fun c => wp_some (.inr ⟨by simp, .inr rfl, by jw⟩)) (fun c2 => ?_)
      have c3 : t ≠ b := by simpa using c2
      refine wp_if (fun c => wp_some (.inr ⟨by simp, .inr rfl, by jw⟩)) (fun c => ?_)
      sw1; sw1; sw1; sw1; sw1; sw1; sw1; sw1
      rename_i y1 hy1 y2 hy2
      -- up
      have up1 : ∀ y, J q g off W y → wp (g47_l57 q a b (f, i, j) t (t + 1) y) (fun r => r = (.normal, (f, t, j + 1), r.2.2) ∧ J q g off W r.2.2) := by
        intro y hy
        obtain ⟨e, t', x1, g1, rfl, hJ⟩ := loop_wp (b := g47_l57_b b q a (f, i, j) t) (I := fun s x => t + 1 ≤ s ∧ J q g off W x) (Q := fun e s x => e = .exit 6 ∧ J q g off W x) (fun s => (b - s).toNat)
          (fun s y ⟨hs, hy⟩ => by
            unfold g47_l57_b
            refine wp_if (fun c => ?_) (fun c => wp_some (.inr ⟨by simp, rfl, by jw⟩))
            simp only [decide_eq_true_eq] at c
            try simp (disch := omega) only [wrap_i64]
            sw1; sw1; sw1; sw1; sw1
            refine wp_if (fun c => wp_some (.inr ⟨by simp, rfl, by jw⟩)) (fun c => ?_)
            sw1; sw1; sw1; sw1; sw1; sw1; sw1; sw1
            exact wp_some (.inl ⟨rfl, ⟨by om, by jw⟩, by om⟩))
          (s := t + 1) (w := y) ⟨by om, hy⟩
        rw [g47_l57_x6_of g1]
        unfold g47_l57_x6
        try simp (disch := omega) only [wrap_i64]
        exact wp_some ⟨rfl, by jw⟩
      have up2 : ∀ y, J q g off W y → wp (g47_l81 q a b (f, i, j) t (t + 1) y) (fun r => r = (.normal, (f, t, j + 1), r.2.2) ∧ J q g off W r.2.2) := by
        intro y hy
        obtain ⟨e, t', x1, g1, rfl, hJ⟩ := loop_wp (b := g47_l81_b b q a (f, i, j) t) (I := fun s x => t + 1 ≤ s ∧ J q g off W x) (Q := fun e s x => e = .exit 6 ∧ J q g off W x) (fun s => (b - s).toNat)
          (fun s y ⟨hs, hy⟩ => by
            unfold g47_l81_b
            refine wp_if (fun c => ?_) (fun c => wp_some (.inr ⟨by simp, rfl, by jw⟩))
            simp only [decide_eq_true_eq] at c
            try simp (disch := omega) only [wrap_i64]
            sw1; sw1; sw1; sw1; sw1
            refine wp_if (fun c => wp_some (.inr ⟨by simp, rfl, by jw⟩)) (fun c => ?_)
            sw1; sw1; sw1; sw1; sw1; sw1; sw1; sw1
            exact wp_some (.inl ⟨rfl, ⟨by om, by jw⟩, by om⟩))
          (s := t + 1) (w := y) ⟨by om, hy⟩
        rw [g47_l81_x6_of g1]
        unfold g47_l81_x6
        try simp (disch := omega) only [wrap_i64]
        exact wp_some ⟨rfl, by jw⟩
      have goOn : ∀ r : Exit × (Bool × Int × Int) × World, (r = (.normal, (f, t, j + 1), r.2.2) ∧ J q g off W r.2.2) → r.1 = .normal ∧ ((a + 1 ≤ r.2.1.2.1 ∧ r.2.1.2.1 ≤ b) ∧ (0 ≤ r.2.1.2.2 ∧ r.2.1.2.2 ≤ 5) ∧ J q g off W r.2.2) ∧ (5 - r.2.1.2.2).toNat < (5 - j).toNat ∨ r.1 ≠ .normal ∧ (r.1 = .exit 0 ∨ r.1 = .ret) ∧ J q g off W r.2.2 := by
        rintro ⟨e, s, y⟩ ⟨hr, hy⟩
        simp only [Prod.mk.injEq, and_true] at hr
        obtain ⟨rfl, rfl⟩ := hr
        exact .inl ⟨rfl, ⟨by om, by om, hy⟩, by om⟩
      refine wp_if (fun c => ?_) (fun c => ?_)
      · obtain ⟨e, t', x1, g1, rfl, hJ⟩ := loop_wp (b := g47_l32_b q a b (f, i, j) t) (I := fun s x => s ≤ t - 1 ∧ J q g off W x) (Q := fun e s x => e = .exit 4 ∧ J q g off W x) (fun s => s.toNat)
          (fun s y ⟨hs, hy⟩ => by
            unfold g47_l32_b
            refine wp_if (fun c => ?_) (fun c => wp_some (.inr ⟨by simp, rfl, by jw⟩))
            simp only [decide_eq_true_eq] at c
            try simp (disch := omega) only [wrap_i64]
            sw1; sw1; sw1; sw1; sw1
            refine wp_if (fun c => wp_some (.inr ⟨by simp, rfl, by jw⟩)) (fun c => ?_)
            sw1; sw1; sw1; sw1; sw1; sw1; sw1; sw1
            exact wp_some (.inl ⟨rfl, ⟨by om, by jw⟩, by om⟩))
          (s := t - 1) (w := y2) ⟨by om, hy2⟩
        rw [g47_l32_x4_of g1]
        unfold g47_l32_x4
        try simp (disch := omega) only [wrap_i64]
        refine wp_if (fun c => wp_mono (up1 _ hJ) goOn) (fun c => wp_some (goOn _ ⟨rfl, by jw⟩))
      · refine wp_if (fun c => wp_mono (up2 _ hy2) goOn) (fun c => wp_some (goOn _ ⟨rfl, by jw⟩)))
    (s := (false, a + 1, 0)) (w := w) ⟨by om, by om, h⟩
  obtain ⟨t0, t1, t2⟩ := t
  rcases he with rfl | rfl
  · refine ⟨false, w1, g47_call ?_, hJ⟩
    unfold g47
    rw [wrap_i64 (by omega) (by omega), g47_l1_x0_of g1, g47_l1_x0]
  · refine ⟨t0, w1, g47_call ?_, hJ⟩
    unfold g47
    rw [wrap_i64 (by omega) (by omega), g47_l1_ret_of g1, g47_l1_ret]

theorem partEq49 (h : J q g off W w) {a b p : Int} (h0 : 0 ≤ a) (hab : a < b) (hb : b ≤ (q.2.1 : Int)) (hp : a ≤ p ∧ p < b) :
    ∃ (r : Int) (w' : World), callF Try.prog 49 #[.slice q.1 q.2.1 q.2.2, .int .i64 a, .int .i64 b, .int .i64 p] w = some (.int .i64 r, w') ∧ J q g off W w' ∧ a < r ∧ r ≤ b := by
  have hle := h.le
  have H : wp (g49 q a b p w) (fun r => ∃ x : Int, r.1 = .int .i64 x ∧ J q g off W r.2 ∧ a < x ∧ x ≤ b) := by
    unfold g49
    try simp (disch := omega) only [wrap_i64]
    sw1; sw1; sw1; sw1; sw1; sw1; sw1; sw1
    rename_i y1 hy1 y2 hy2
    obtain ⟨e, t, w1, g1, rfl, ht, hJ⟩ := loop_wp (b := g49_l11_b q a) (I := fun s x => (a + 1 ≤ s.1 ∧ s.1 ≤ b ∧ a ≤ s.2 ∧ s.2 ≤ b - 1 ∧ s.1 ≤ s.2 + 2) ∧ J q g off W x) (Q := fun e s x => e = .exit 0 ∧ (a + 1 ≤ s.1 ∧ s.1 ≤ b) ∧ J q g off W x) (fun s => (s.2 - s.1 + 2).toNat)
      (fun s x ⟨hs, hx⟩ => by
        obtain ⟨i, j⟩ := s
        simp only at hs
        unfold g49_l11_b
        obtain ⟨e, t, x1, g1, rfl, ht, hJ⟩ := loop_wp (b := g49_l14_b (i, j) q a) (I := fun s x => (i ≤ s ∧ (s = i ∨ s ≤ j + 1)) ∧ J q g off W x) (Q := fun e s x => e = .exit 2 ∧ (i ≤ s ∧ (s = i ∨ s ≤ j + 1)) ∧ J q g off W x) (fun s => (j + 1 - s).toNat)
          (fun s y ⟨hs, hy⟩ => by
            unfold g49_l14_b
            refine wp_if (fun c => ?_) (fun c => wp_some (.inr ⟨by simp, rfl, by om, by jw⟩))
            simp only [decide_eq_true_eq] at c
            try simp (disch := omega) only [wrap_i64]
            sw1; sw1; sw1; sw1; sw1
            refine wp_if (fun _ => wp_some (.inl ⟨rfl, ⟨by om, by jw⟩, by om⟩)) (fun _ => wp_some (.inr ⟨by simp, rfl, by om, by jw⟩)))
          (s := i) (w := x) ⟨⟨Int.le_refl _, .inl rfl⟩, hx⟩
        show wp (g49_l14 q a (i, j) i x) _
        rw [g49_l14_x2_of g1]
        unfold g49_l14_x2
        obtain ⟨e, t2, x2, g2, rfl, ht2, hJ2⟩ := loop_wp (b := g49_l31_b t q a) (I := fun s x => (s ≤ j ∧ (s = j ∨ t - 1 ≤ s)) ∧ J q g off W x) (Q := fun e s x => e = .exit 4 ∧ (s ≤ j ∧ (s = j ∨ t - 1 ≤ s)) ∧ J q g off W x) (fun s => (s - t + 1).toNat)
          (fun s y ⟨hs, hy⟩ => by
            unfold g49_l31_b
            refine wp_if (fun c => ?_) (fun c => wp_some (.inr ⟨by simp, rfl, by om, by jw⟩))
            simp only [decide_eq_true_eq] at c
            try simp (disch := omega) only [wrap_i64]
            sw1; sw1; sw1; sw1; sw1
            refine wp_if (fun _ => wp_some (.inl ⟨rfl, ⟨by om, by jw⟩, by om⟩)) (fun _ => wp_some (.inr ⟨by simp, rfl, by om, by jw⟩)))
          (s := j) (w := x1) ⟨⟨Int.le_refl _, .inl rfl⟩, hJ⟩
        show wp (g49_l31 q a t j x1) _
        rw [g49_l31_x4_of g2]
        unfold g49_l31_x4
        refine wp_if (fun c => wp_some (.inr ⟨by simp, rfl, by om, by jw⟩)) (fun c => ?_)
        simp only [decide_eq_true_eq] at c
        try simp (disch := omega) only [wrap_i64]
        sw1; sw1; sw1; sw1; sw1; sw1; sw1; sw1
        exact wp_some (.inl ⟨rfl, ⟨by om, by jw⟩, by om⟩))
      (s := (a + 1, b - 1)) (w := y2) ⟨by om, hy2⟩
    rw [g49_l11_x0_of g1, g49_l11_x0]
    exact wp_some ⟨_, rfl, hJ, by om, by om⟩
  obtain ⟨⟨v, w'⟩, e, x, rfl, hJ, h1, h2⟩ := H
  exact ⟨x, w', g49_call e, hJ, h1, h2⟩

theorem part50 (h : J q g off W w) {a b p : Int} (h0 : 0 ≤ a) (hab : a < b) (hb : b ≤ (q.2.1 : Int)) (hp : a ≤ p ∧ p < b) :
    ∃ (r : Int) (f : Bool) (w' : World), callF Try.prog 50 #[.slice q.1 q.2.1 q.2.2, .int .i64 a, .int .i64 b, .int .i64 p] w = some (.tuple #[.int .i64 r, .bool f], w') ∧ J q g off W w' ∧ a ≤ r ∧ r < b := by
  have hle := h.le
  have H : wp (g50 q a b p w) (fun r => ∃ (x : Int) (f : Bool), r.1 = .tuple #[.int .i64 x, .bool f] ∧ J q g off W r.2 ∧ a ≤ x ∧ x < b) := by
    unfold g50
    try simp (disch := omega) only [wrap_i64]
    sw1; sw1; sw1; sw1; sw1; sw1; sw1; sw1
    rename_i y1 hy1 y2 hy2
    obtain ⟨e, t, x1, g1, rfl, ht, hJ⟩ := loop_wp (b := g50_l11_b b q a) (I := fun s x => (a + 1 ≤ s ∧ s ≤ b) ∧ J q g off W x) (Q := fun e s x => e = .exit 0 ∧ (a + 1 ≤ s ∧ s ≤ b) ∧ J q g off W x) (fun s => (b - s).toNat)
      (fun s y ⟨hs, hy⟩ => by
        unfold g50_l11_b
        try simp (disch := omega) only [wrap_i64]
        refine wp_if (fun c => ?_) (fun c => wp_some (.inr ⟨by simp, rfl, by om, by jw⟩))
        simp only [decide_eq_true_eq] at c
        try simp (disch := omega) only [wrap_i64]
        sw1; sw1; sw1; sw1; sw1
        refine wp_if (fun _ => wp_some (.inl ⟨rfl, ⟨by om, by jw⟩, by om⟩)) (fun _ => wp_some (.inr ⟨by simp, rfl, by om, by jw⟩)))
      (s := a + 1) (w := y2) ⟨by om, hy2⟩
    rw [g50_l11_x0_of g1]
    unfold g50_l11_x0
    rw [wrap_i64 (by omega) (by omega)]
    obtain ⟨e, t2, x2, g2, rfl, ht2, hJ2⟩ := loop_wp (b := g50_l27_b t q a) (I := fun s x => (s ≤ b - 1 ∧ t - 1 ≤ s) ∧ J q g off W x) (Q := fun e s x => e = .exit 2 ∧ (s ≤ b - 1 ∧ t - 1 ≤ s) ∧ J q g off W x) (fun s => (s - t + 1).toNat)
      (fun s y ⟨hs, hy⟩ => by
        unfold g50_l27_b
        refine wp_if (fun c => ?_) (fun c => wp_some (.inr ⟨by simp, rfl, by om, by jw⟩))
        simp only [decide_eq_true_eq] at c
        try simp (disch := omega) only [wrap_i64]
        sw1; sw1; sw1; sw1; sw1
        refine wp_if (fun _ => wp_some (.inl ⟨rfl, ⟨by om, by jw⟩, by om⟩)) (fun _ => wp_some (.inr ⟨by simp, rfl, by om, by jw⟩)))
      (s := b - 1) (w := x1) ⟨by om, hJ⟩
    rw [g50_l27_x2_of g2]
    unfold g50_l27_x2
    refine wp_if (fun c => ?_) (fun c => ?_)
    · sw1; sw1; sw1; sw1; sw1; sw1; sw1; sw1
      exact wp_some ⟨_, _, rfl, by jw, by om, by om⟩
    simp only [decide_eq_true_eq] at c
    try simp (disch := omega) only [wrap_i64]
    sw1; sw1; sw1; sw1; sw1; sw1; sw1; sw1
    rename_i y3 hy3 y4 hy4
    obtain ⟨e, t3, w3, g3, rfl, ht3, hJ3⟩ := loop_wp (b := g50_l62_b q a) (I := fun s x => (a + 1 ≤ s.1 ∧ s.1 ≤ b ∧ a ≤ s.2 ∧ s.2 ≤ b - 1 ∧ s.1 ≤ s.2 + 2) ∧ J q g off W x) (Q := fun e s x => e = .exit 4 ∧ (a ≤ s.2 ∧ s.2 ≤ b - 1) ∧ J q g off W x) (fun s => (s.2 - s.1 + 2).toNat)
      (fun s x ⟨hs, hx⟩ => by
        obtain ⟨i, j⟩ := s
        simp only at hs
        unfold g50_l62_b
        obtain ⟨e, t, x1, g1, rfl, ht, hJ⟩ := loop_wp (b := g50_l65_b (i, j) q a) (I := fun s x => (i ≤ s ∧ (s = i ∨ s ≤ j + 1)) ∧ J q g off W x) (Q := fun e s x => e = .exit 6 ∧ (i ≤ s ∧ (s = i ∨ s ≤ j + 1)) ∧ J q g off W x) (fun s => (j + 1 - s).toNat)
          (fun s y ⟨hs, hy⟩ => by
            unfold g50_l65_b
            refine wp_if (fun c => ?_) (fun c => wp_some (.inr ⟨by simp, rfl, by om, by jw⟩))
            simp only [decide_eq_true_eq] at c
            try simp (disch := omega) only [wrap_i64]
            sw1; sw1; sw1; sw1; sw1
            refine wp_if (fun _ => wp_some (.inl ⟨rfl, ⟨by om, by jw⟩, by om⟩)) (fun _ => wp_some (.inr ⟨by simp, rfl, by om, by jw⟩)))
          (s := i) (w := x) ⟨⟨Int.le_refl _, .inl rfl⟩, hx⟩
        show wp (g50_l65 q a (i, j) i x) _
        rw [g50_l65_x6_of g1]
        unfold g50_l65_x6
        obtain ⟨e, t2, x2, g2, rfl, ht2, hJ2⟩ := loop_wp (b := g50_l82_b t q a) (I := fun s x => (s ≤ j ∧ (s = j ∨ t - 1 ≤ s)) ∧ J q g off W x) (Q := fun e s x => e = .exit 8 ∧ (s ≤ j ∧ (s = j ∨ t - 1 ≤ s)) ∧ J q g off W x) (fun s => (s - t + 1).toNat)
          (fun s y ⟨hs, hy⟩ => by
            unfold g50_l82_b
            refine wp_if (fun c => ?_) (fun c => wp_some (.inr ⟨by simp, rfl, by om, by jw⟩))
            simp only [decide_eq_true_eq] at c
            try simp (disch := omega) only [wrap_i64]
            sw1; sw1; sw1; sw1; sw1
            refine wp_if (fun _ => wp_some (.inl ⟨rfl, ⟨by om, by jw⟩, by om⟩)) (fun _ => wp_some (.inr ⟨by simp, rfl, by om, by jw⟩)))
          (s := j) (w := x1) ⟨⟨Int.le_refl _, .inl rfl⟩, hJ⟩
        show wp (g50_l82 q a t j x1) _
        rw [g50_l82_x8_of g2]
        unfold g50_l82_x8
        refine wp_if (fun c => wp_some (.inr ⟨by simp, rfl, by om, by jw⟩)) (fun c => ?_)
        simp only [decide_eq_true_eq] at c
        try simp (disch := omega) only [wrap_i64]
        sw1; sw1; sw1; sw1; sw1; sw1; sw1; sw1
        exact wp_some (.inl ⟨rfl, ⟨by om, by jw⟩, by om⟩))
      (s := (t + 1, t2 - 1)) (w := y4) ⟨by om, hy4⟩
    rw [g50_l62_x4_of g3]
    unfold g50_l62_x4
    sw1; sw1; sw1; sw1; sw1; sw1; sw1; sw1
    exact wp_some ⟨_, _, rfl, by jw, by om, by om⟩
  obtain ⟨⟨v, w'⟩, e, x, f, rfl, hJ, h1, h2⟩ := H
  exact ⟨x, f, w', g50_call e, hJ, h1, h2⟩
end
end Go.Proofs.Ytkmidlhnlnolnaa
