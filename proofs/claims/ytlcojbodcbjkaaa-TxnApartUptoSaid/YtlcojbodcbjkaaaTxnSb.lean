/-
  TxnSb: lemmas on what Go functions of this seat come to (for whatever arguments, as each says). No condition but those that stand in each lemma.
-/
import Derived.Test.YtlcojbodcbjkaaaTxnSa
namespace Go.Proofs.Ytlcojbodcbjkaaa.SQ
open Go Go.Ev
set_option maxRecDepth 100000
set_option linter.unusedVariables false
set_option linter.unusedSimpArgs false

theorem wadd {a b : Nat} (h : a + b < 4000000000000000000) : IntKind.i64.wrap ((a : Int) + (b : Int)) = ((a + b : Nat) : Int) := by rw [wrap_i64 (by omega) (by omega)]; omega
theorem wadd1 {a : Nat} (h : a + 1 < 4000000000000000000) : IntKind.i64.wrap ((a : Int) + 1) = ((a + 1 : Nat) : Int) := by rw [wrap_i64 (by omega) (by omega)]; omega
theorem wdbl {a : Nat} (h : 2 * a < 4000000000000000000) : IntKind.i64.wrap (2 * (a : Int)) = ((2 * a : Nat) : Int) := by rw [wrap_i64 (by omega) (by omega)]; omega
theorem wsub {a b : Nat} (h : a < 4000000000000000000) (hb : b ≤ a) : IntKind.i64.wrap ((a : Int) - (b : Int)) = ((a - b : Nat) : Int) := by rw [wrap_i64 (by omega) (by omega)]; omega
theorem wsub1 {a : Nat} (h : a < 4000000000000000000) (hb : 1 ≤ a) : IntKind.i64.wrap ((a : Int) - 1) = ((a - 1 : Nat) : Int) := by rw [wrap_i64 (by omega) (by omega)]; omega

section
variable {q : ShI} {g off : Nat} {W w : World} {d : Array Int}
theorem wp_ixn {β : Type} {f : Addr → Option β} {Q : β → Prop} (h : J q g off W w d) {i : Nat} (h1 : i < q.2.1) (hf : wp (f ⟨g, off + i, none⟩) Q) : wp ((idxA q.1 q.2.1 1 (i : Int)).bind f) Q :=
  wp_ix h (by omega) (by omega) (by simpa using hf)
theorem wp_ldn {β : Type} {f : Int → Option β} {Q : β → Prop} (h : J q g off W w d) {i : Nat} (h1 : i < q.2.1) (hf : wp (f d[i]!) Q) : wp ((w.cell? ⟨g, off + i, none⟩).bind fun v => (asI .i64 v).bind f) Q :=
  wp_ld (i := (i : Int)) h (by omega) (by omega) (by simpa using hf)
theorem wp_stn {β : Type} {f : World → Option β} {Q : β → Prop} (h : J q g off W w d) {i : Nat} (h1 : i < q.2.1) {v : Int} (hf : ∀ w', J q g off W w' (d.setIfInBounds i v) → wp (f w') Q) : wp ((st1 w ⟨g, off + i, none⟩ (.int .i64 v)).bind f) Q :=
  wp_st (i := (i : Int)) h (by omega) (by omega) (by simpa using hf)
/-- two cells change places -/
theorem wp_swap {β : Type} {f : World → Option β} {Q : β → Prop} (h : J q g off W w d) {i j : Nat} (hi : i < q.2.1) (hj : j < q.2.1) (hf : ∀ w', J q g off W w' (Sort.swp d i j) → wp (f w') Q) :
    wp ((idxA q.1 q.2.1 1 (j : Int)).bind fun a1 => (World.cell? w a1).bind fun v1 => (asI .i64 v1).bind fun n1 => (idxA q.1 q.2.1 1 (i : Int)).bind fun a2 => (World.cell? w a2).bind fun v2 => (asI .i64 v2).bind fun n2 =>
      (idxA q.1 q.2.1 1 (i : Int)).bind fun a3 => (st1 w a3 (.int .i64 n1)).bind fun w3 => (idxA q.1 q.2.1 1 (j : Int)).bind fun a4 => (st1 w3 a4 (.int .i64 n2)).bind f) Q := by
  refine wp_ixn h hj (wp_ldn h hj (wp_ixn h hi (wp_ldn h hi (wp_ixn h hi (wp_stn h hi fun w1 h1 => wp_ixn h1 hj (wp_stn h1 hj fun w2 h2 => hf w2 ?_))))))
  exact h2
/-- one is less than another -/
theorem wp_lt {β : Type} {f : Value × World → Option β} {Q : β → Prop} (h : J q g off W w d) {i j : Nat} (hi : i < q.2.1) (hj : j < q.2.1) (hf : wp (f (.bool (Sort.ltInt d[i]! d[j]!), w)) Q) :
    wp ((idxA q.1 q.2.1 1 (i : Int)).bind fun a1 => (World.cell? w a1).bind fun v1 => (asI .i64 v1).bind fun n1 => (idxA q.1 q.2.1 1 (j : Int)).bind fun a2 => (World.cell? w a2).bind fun v2 => (asI .i64 v2).bind fun n2 =>
      (callF Try.prog 77 #[.int .i64 n1, .int .i64 n2] w).bind f) Q :=
  wp_ixn h hi (wp_ldn h hi (wp_ixn h hj (wp_ldn h hj (wp_less hf))))
end

section
variable {q : ShI} {g off : Nat} {W w : World} {d : Array Int}

theorem sift83 (h : J q g off W w d) {lo hi first : Nat} (hf : first + hi ≤ q.2.1) (hlo : lo ≤ q.2.1) :
    ∃ w', callF Try.prog 83 #[.slice q.1 q.2.1 q.2.2, .int .i64 (lo : Int), .int .i64 (hi : Int), .int .i64 (first : Int)] w = some (.tuple #[], w') ∧ J q g off W w' (Sort.siftDown Sort.ltInt hi first lo d) := by
  have hle := h.le
  obtain ⟨e, t, w1, g1, he, hJ⟩ := loop_wp (b := g83_l1_b (hi : Int) q (first : Int)) (I := fun s x => ∃ (i : Nat) (d' : Array Int), s = (i : Int) ∧ i < 4000000000000 ∧ J q g off W x d' ∧ Sort.siftDown Sort.ltInt hi first i d' = Sort.siftDown Sort.ltInt hi first lo d)
    (Q := fun e s x => (e = .exit 0 ∨ e = .ret) ∧ J q g off W x (Sort.siftDown Sort.ltInt hi first lo d)) (fun s => ((hi : Int) - s).toNat)
    (fun s x ⟨i, d', hs, hi0, hx, hr⟩ => by
      subst hs
      unfold g83_l1_b
      (simp (disch := omega) only [wadd, wadd1, wdbl, wsub, wsub1] at *)
      have X : ∀ y, J q g off W y d' → Sort.siftDown Sort.ltInt hi first i d' = d' → ∀ e : Exit, (e = .exit 0 ∨ e = .ret) → wp (some (e, (i : Int), y)) (fun r : Exit × Int × World => r.1 = .normal ∧ (∃ (i : Nat) (d' : Array Int), r.2.1 = (i : Int) ∧ i < 4000000000000 ∧ J q g off W r.2.2 d' ∧ Sort.siftDown Sort.ltInt hi first i d' = Sort.siftDown Sort.ltInt hi first lo d) ∧ ((hi : Int) - r.2.1).toNat < ((hi : Int) - (i : Int)).toNat ∨ r.1 ≠ .normal ∧ (r.1 = .exit 0 ∨ r.1 = .ret) ∧ J q g off W r.2.2 (Sort.siftDown Sort.ltInt hi first lo d)) := by
        intro y hy h1 e he
        refine wp_some (.inr ⟨by rcases he with rfl | rfl <;> simp, he, ?_⟩)
        rw [← hr, h1]
        exact hy
      have N : ∀ (c : Nat), i < c → c < hi → ∀ y, J q g off W y (Sort.swp d' (first + i) (first + c)) → Sort.siftDown Sort.ltInt hi first i d' = Sort.siftDown Sort.ltInt hi first c (Sort.swp d' (first + i) (first + c)) → wp (some (Exit.normal, (c : Int), y)) (fun r : Exit × Int × World => r.1 = .normal ∧ (∃ (i : Nat) (d' : Array Int), r.2.1 = (i : Int) ∧ i < 4000000000000 ∧ J q g off W r.2.2 d' ∧ Sort.siftDown Sort.ltInt hi first i d' = Sort.siftDown Sort.ltInt hi first lo d) ∧ ((hi : Int) - r.2.1).toNat < ((hi : Int) - (i : Int)).toNat ∨ r.1 ≠ .normal ∧ (r.1 = .exit 0 ∨ r.1 = .ret) ∧ J q g off W r.2.2 (Sort.siftDown Sort.ltInt hi first lo d)) := by
        intro c hc hc2 y hy h1
        exact wp_some (.inl ⟨rfl, ⟨c, _, rfl, by omega, hy, by rw [← hr, h1]⟩, by simp only; omega⟩)
      refine wp_if (fun c => ?_) (fun c => ?_)
      · simp only [decide_eq_true_eq] at c
        exact X _ hx (by unfold Sort.siftDown; rw [dif_pos (by omega)]) _ (.inl rfl)
      simp only [decide_eq_true_eq] at c
      skip
      refine wp_if (fun c2 => ?_) (fun c2 => ?_)
      · simp only [decide_eq_true_eq] at c2
        (refine wp_lt (by (first | assumption | (apply J.drew; assumption) | (apply J.drew; apply J.drew; assumption) | (apply J.drew; apply J.drew; apply J.drew; assumption) | (apply J.drew; apply J.drew; apply J.drew; apply J.drew; assumption) | (apply J.drew; apply J.drew; apply J.drew; apply J.drew; apply J.drew; assumption))) (by omega) (by omega) (wp_bind (asB_bool ..) ?_))
        refine wp_if (fun c3 => ?_) (fun c3 => ?_)
        · (refine wp_lt (by (first | assumption | (apply J.drew; assumption) | (apply J.drew; apply J.drew; assumption) | (apply J.drew; apply J.drew; apply J.drew; assumption) | (apply J.drew; apply J.drew; apply J.drew; apply J.drew; assumption) | (apply J.drew; apply J.drew; apply J.drew; apply J.drew; apply J.drew; assumption))) (by omega) (by omega) (wp_bind (asB_bool ..) ?_))
          refine wp_if (fun c4 => ?_) (fun c4 => ?_)
          · refine X _ (by (first | assumption | (apply J.drew; assumption) | (apply J.drew; apply J.drew; assumption) | (apply J.drew; apply J.drew; apply J.drew; assumption) | (apply J.drew; apply J.drew; apply J.drew; apply J.drew; assumption) | (apply J.drew; apply J.drew; apply J.drew; apply J.drew; apply J.drew; assumption))) ?_ _ (.inr rfl)
            unfold Sort.siftDown
            rw [dif_neg (by omega), if_pos (by simp [c3]; omega), if_pos c4]
          · (refine wp_swap (W := _) (by (first | assumption | (apply J.drew; assumption) | (apply J.drew; apply J.drew; assumption) | (apply J.drew; apply J.drew; apply J.drew; assumption) | (apply J.drew; apply J.drew; apply J.drew; apply J.drew; assumption) | (apply J.drew; apply J.drew; apply J.drew; apply J.drew; apply J.drew; assumption))) (by omega) (by omega) fun _ _ => ?_)
            refine N (2 * i + 1 + 1) (by omega) (by omega) _ (by (first | assumption | (apply J.drew; assumption) | (apply J.drew; apply J.drew; assumption) | (apply J.drew; apply J.drew; apply J.drew; assumption) | (apply J.drew; apply J.drew; apply J.drew; apply J.drew; assumption) | (apply J.drew; apply J.drew; apply J.drew; apply J.drew; apply J.drew; assumption))) ?_
            conv => lhs; unfold Sort.siftDown
            rw [dif_neg (by omega), if_pos (by simp [c3]; omega), if_neg c4, dif_pos (by omega)]
        · (refine wp_lt (by (first | assumption | (apply J.drew; assumption) | (apply J.drew; apply J.drew; assumption) | (apply J.drew; apply J.drew; apply J.drew; assumption) | (apply J.drew; apply J.drew; apply J.drew; apply J.drew; assumption) | (apply J.drew; apply J.drew; apply J.drew; apply J.drew; apply J.drew; assumption))) (by omega) (by omega) (wp_bind (asB_bool ..) ?_))
          refine wp_if (fun c4 => ?_) (fun c4 => ?_)
          · refine X _ (by (first | assumption | (apply J.drew; assumption) | (apply J.drew; apply J.drew; assumption) | (apply J.drew; apply J.drew; apply J.drew; assumption) | (apply J.drew; apply J.drew; apply J.drew; apply J.drew; assumption) | (apply J.drew; apply J.drew; apply J.drew; apply J.drew; apply J.drew; assumption))) ?_ _ (.inr rfl)
            unfold Sort.siftDown
            rw [dif_neg (by omega), if_neg (by simp [c3]), if_pos c4]
          · (refine wp_swap (W := _) (by (first | assumption | (apply J.drew; assumption) | (apply J.drew; apply J.drew; assumption) | (apply J.drew; apply J.drew; apply J.drew; assumption) | (apply J.drew; apply J.drew; apply J.drew; apply J.drew; assumption) | (apply J.drew; apply J.drew; apply J.drew; apply J.drew; apply J.drew; assumption))) (by omega) (by omega) fun _ _ => ?_)
            refine N (2 * i + 1) (by omega) (by omega) _ (by (first | assumption | (apply J.drew; assumption) | (apply J.drew; apply J.drew; assumption) | (apply J.drew; apply J.drew; apply J.drew; assumption) | (apply J.drew; apply J.drew; apply J.drew; apply J.drew; assumption) | (apply J.drew; apply J.drew; apply J.drew; apply J.drew; apply J.drew; assumption))) ?_
            conv => lhs; unfold Sort.siftDown
            rw [dif_neg (by omega), if_neg (by simp [c3]), if_neg c4]
      · simp only [decide_eq_true_eq] at c2
        (refine wp_lt (by (first | assumption | (apply J.drew; assumption) | (apply J.drew; apply J.drew; assumption) | (apply J.drew; apply J.drew; apply J.drew; assumption) | (apply J.drew; apply J.drew; apply J.drew; apply J.drew; assumption) | (apply J.drew; apply J.drew; apply J.drew; apply J.drew; apply J.drew; assumption))) (by omega) (by omega) (wp_bind (asB_bool ..) ?_))
        refine wp_if (fun c4 => ?_) (fun c4 => ?_)
        · refine X _ (by (first | assumption | (apply J.drew; assumption) | (apply J.drew; apply J.drew; assumption) | (apply J.drew; apply J.drew; apply J.drew; assumption) | (apply J.drew; apply J.drew; apply J.drew; apply J.drew; assumption) | (apply J.drew; apply J.drew; apply J.drew; apply J.drew; apply J.drew; assumption))) ?_ _ (.inr rfl)
          unfold Sort.siftDown
          rw [dif_neg (by omega), if_neg (by simp; omega), if_pos c4]
        · (refine wp_swap (W := _) (by (first | assumption | (apply J.drew; assumption) | (apply J.drew; apply J.drew; assumption) | (apply J.drew; apply J.drew; apply J.drew; assumption) | (apply J.drew; apply J.drew; apply J.drew; apply J.drew; assumption) | (apply J.drew; apply J.drew; apply J.drew; apply J.drew; apply J.drew; assumption))) (by omega) (by omega) fun _ _ => ?_)
          refine N (2 * i + 1) (by omega) (by omega) _ (by (first | assumption | (apply J.drew; assumption) | (apply J.drew; apply J.drew; assumption) | (apply J.drew; apply J.drew; apply J.drew; assumption) | (apply J.drew; apply J.drew; apply J.drew; apply J.drew; assumption) | (apply J.drew; apply J.drew; apply J.drew; apply J.drew; apply J.drew; assumption))) ?_
          conv => lhs; unfold Sort.siftDown
          rw [dif_neg (by omega), if_neg (by simp; omega), if_neg c4])
    (s := (lo : Int)) (w := w) ⟨lo, d, rfl, by omega, h, rfl⟩
  rcases he with rfl | rfl
  · refine ⟨w1, g83_call ?_, hJ⟩
    unfold g83
    rw [g83_l1_x0_of g1, g83_l1_x0]
  · refine ⟨w1, g83_call ?_, hJ⟩
    unfold g83
    rw [g83_l1_ret_of g1, g83_l1_ret]

theorem wp_sift {β : Type} {f : Value × World → Option β} {Q : β → Prop} (h : J q g off W w d) {lo hi first : Nat} (hf : first + hi ≤ q.2.1) (hlo : lo ≤ q.2.1) (hk : ∀ w', J q g off W w' (Sort.siftDown Sort.ltInt hi first lo d) → wp (f (.tuple #[], w')) Q) :
    wp ((callF Try.prog 83 #[.slice q.1 q.2.1 q.2.2, .int .i64 (lo : Int), .int .i64 (hi : Int), .int .i64 (first : Int)] w).bind f) Q := by
  obtain ⟨w', e, h'⟩ := sift83 h hf hlo
  exact wp_bind e (hk _ h')

theorem heap72 (h : J q g off W w d) {a b : Nat} (hab : a < b) (hb : b ≤ q.2.1) :
    ∃ w', callF Try.prog 72 #[.slice q.1 q.2.1 q.2.2, .int .i64 (a : Int), .int .i64 (b : Int)] w = some (.tuple #[], w') ∧ J q g off W w' (Sort.heapSort Sort.ltInt d a b) := by
  have hle := h.le
  obtain ⟨e, t, w1, g1, rfl, hJ⟩ := loop_wp (b := g72_l1_b q (b : Int) (a : Int)) (I := fun s x => ∃ (k : Nat) (d' : Array Int), s = (k : Int) - 1 ∧ k ≤ q.2.1 ∧ J q g off W x d' ∧ Sort.heapBuild Sort.ltInt (b - a) a k d' = Sort.heapBuild Sort.ltInt (b - a) a ((b - a - 1) / 2 + 1) d)
    (Q := fun e s x => e = .exit 0 ∧ J q g off W x (Sort.heapBuild Sort.ltInt (b - a) a ((b - a - 1) / 2 + 1) d)) (fun s => (s + 1).toNat)
    (fun s x ⟨k, d', hs, hk, hx, hr⟩ => by
      subst hs
      unfold g72_l1_b
      refine wp_if (fun c => ?_) (fun c => ?_)
      · simp only [decide_eq_true_eq] at c
        obtain ⟨k, rfl⟩ : ∃ k', k = k' + 1 := ⟨k - 1, by omega⟩
        have e : (((k + 1 : Nat) : Int) - 1) = (k : Int) := by omega
        rw [e]
        (simp (disch := omega) only [wadd, wadd1, wdbl, wsub, wsub1] at *)
        refine wp_sift hx (by omega) (by omega) fun w' hw' => wp_bind asTup0 (wp_some (.inl ⟨rfl, ⟨k, _, wrap_i64 (by omega) (by omega), by omega, hw', hr⟩, ?_⟩))
        simp only
        rw [wrap_i64 (by omega) (by omega)]
        omega
      · simp only [decide_eq_true_eq] at c
        have e : k = 0 := by omega
        subst e
        refine wp_some (.inr ⟨by simp, rfl, ?_⟩)
        rw [← hr]
        exact hx)
    (s := (((b - a - 1) / 2 : Nat) : Int)) (w := w) ⟨(b - a - 1) / 2 + 1, d, by omega, by omega, h, rfl⟩
  obtain ⟨e2, t2, w2, g2, rfl, hJ2⟩ := loop_wp (b := g72_l10_b q (a : Int)) (I := fun s x => ∃ (k : Nat) (d' : Array Int), s = (k : Int) - 1 ∧ k ≤ b - a ∧ J q g off W x d' ∧ Sort.heapPop Sort.ltInt a k d' = Sort.heapSort Sort.ltInt d a b)
    (Q := fun e s x => e = .exit 2 ∧ J q g off W x (Sort.heapSort Sort.ltInt d a b)) (fun s => (s + 1).toNat)
    (fun s x ⟨k, d', hs, hk, hx, hr⟩ => by
      subst hs
      unfold g72_l10_b
      refine wp_if (fun c => ?_) (fun c => ?_)
      · simp only [decide_eq_true_eq] at c
        obtain ⟨k, rfl⟩ : ∃ k', k = k' + 1 := ⟨k - 1, by omega⟩
        have e : (((k + 1 : Nat) : Int) - 1) = (k : Int) := by omega
        rw [e]
        (simp (disch := omega) only [wadd, wadd1, wdbl, wsub, wsub1] at *)
        (refine wp_swap (W := _) (by (first | assumption | (apply J.drew; assumption) | (apply J.drew; apply J.drew; assumption) | (apply J.drew; apply J.drew; apply J.drew; assumption) | (apply J.drew; apply J.drew; apply J.drew; apply J.drew; assumption) | (apply J.drew; apply J.drew; apply J.drew; apply J.drew; apply J.drew; assumption))) (by omega) (by omega) fun _ _ => ?_)
        rename_i hw'
        refine wp_sift (lo := 0) hw' (by omega) (by omega) fun w' hw' => wp_bind asTup0 (wp_some (.inl ⟨rfl, ⟨k, _, wrap_i64 (by omega) (by omega), by omega, hw', hr⟩, ?_⟩))
        simp only
        rw [wrap_i64 (by omega) (by omega)]
        omega
      · simp only [decide_eq_true_eq] at c
        have e : k = 0 := by omega
        subst e
        refine wp_some (.inr ⟨by simp, rfl, ?_⟩)
        rw [← hr]
        exact hx)
    (s := ((b - a - 1 : Nat) : Int)) (w := w1) ⟨b - a, _, by omega, by omega, hJ, rfl⟩
  refine ⟨w2, g72_call ?_, hJ2⟩
  unfold g72
  (simp (disch := omega) only [wadd, wadd1, wdbl, wsub, wsub1] at *)
  have e : IntKind.i64.wrap (Int.tdiv ((b - a - 1 : Nat) : Int) 2) = (((b - a - 1) / 2 : Nat) : Int) := by
    rw [Int.tdiv_eq_ediv_of_nonneg (by omega), wrap_i64 (by omega) (by omega)]; omega
  rw [e, g72_l1_x0_of g1, g72_l1_x0]
  (simp (disch := omega) only [wadd, wadd1, wdbl, wsub, wsub1] at *)
  rw [g72_l10_x2_of g2, g72_l10_x2]
end
end Go.Proofs.Ytlcojbodcbjkaaa.SQ
