/-
  DiskSs: lemmas on what Go functions of this seat come to (for whatever arguments, as each says). No condition but those that stand in each lemma.
-/
import Derived.Test.YtkmidlhnlnolnaaDiskSr
namespace Go.Proofs.Ytkmidlhnlnolnaa
open Go Go.Ev
set_option maxRecDepth 100000
set_option linter.unusedVariables false
set_option linter.unusedSimpArgs false

/-- Len64 of a small number: the power it names is at most twice the number -/
theorem lenS (w : World) {u : Nat} (h0 : 1 ≤ u) (h1 : u < 65536) : ∃ m : Nat, callF Try.prog 52 #[.int .u64 (u : Int)] w = some (.int .i64 (m : Int), w) ∧ 2 ^ m ≤ 2 * u ∧ m ≤ 16 := by
  have p8 : (2 : Int) ^ (min (Int.toNat 8) 64) = 256 := by decide
  have j7 : ∀ (x : Nat) (n : Nat), x < 256 → n ≤ 8 → 1 ≤ x → ∃ m : Nat, g52_j7 w (x : Int) (n : Int) = some (.int .i64 ((n + m : Nat) : Int), w) ∧ 2 ^ m ≤ 2 * x ∧ m ≤ 8 := by
    intro x n hx hn hx1
    have H : ∀ (T : ByteArray) (y : Int), y = (x : Int) → T.size = 256 → (∀ k : Fin 256, (T.data[k.val]!).toNat ≤ 8 ∧ (1 ≤ k.val → 2 ^ (T.data[k.val]!).toNat ≤ 2 * k.val)) →
        ∃ m : Nat, (strIdx T y).bind (fun n10 => some (Value.int .i64 (IntKind.i64.wrap ((n : Int) + IntKind.i64.wrap n10)), w)) = some (.int .i64 ((n + m : Nat) : Int), w) ∧ 2 ^ m ≤ 2 * x ∧ m ≤ 8 := by
      intro T y hy hT hk
      obtain ⟨k1, k2⟩ := hk ⟨x, hx⟩
      refine ⟨(T.data[x]!).toNat, ?_, k2 hx1, k1⟩
      have e : strIdx T y = some (((T.data[x]!).toNat : Nat) : Int) := by
        subst hy
        unfold strIdx
        rw [if_pos (by omega)]
        have h2 : ((x : Int)).toNat = x := by omega
        rw [h2]
        have hs : x < T.size := by omega
        rw [getElem?_pos T x hs]
        have hd : x < T.data.size := hs
        rw [getElem!_pos T.data x hd]
        rfl
      rw [e]
      simp only at k1
      show some (Value.int .i64 (IntKind.i64.wrap ((n : Int) + IntKind.i64.wrap (((T.data[x]!).toNat : Nat) : Int))), w) = _
      rw [wrap_i64 (n := (((T.data[x]!).toNat : Nat) : Int)) (by omega) (by omega), wrap_i64 (by omega) (by omega)]
      push_cast
      rfl
    unfold g52_j7
    refine H _ _ ?_ ?_ ?_
    · have e : IntKind.u8.wrap (x : Int) = (x : Int) % 256 := by simp [IntKind.wrap, IntKind.bits, IntKind.signed]
      first | (rw [e]; omega) | rfl
    · decide
    · decide
  have j4 : ∃ m : Nat, g52_j4 w (u : Int) 0 = some (.int .i64 (m : Int), w) ∧ 2 ^ m ≤ 2 * u ∧ m ≤ 16 := by
    unfold g52_j4
    rw [p8]
    by_cases h : (256 : Nat) ≤ u
    · have k : decide ((u : Int) ≥ 256) = true := by simp; omega
      rw [if_pos k, Int.fdiv_eq_ediv_of_nonneg _ (by omega)]
      have e : ((u : Int) / 256) = ((u / 256 : Nat) : Int) := by omega
      have e8 : IntKind.i64.wrap ((0 : Int) + 8) = ((8 : Nat) : Int) := by decide
      rw [e, e8]
      obtain ⟨m, h1, h2, h3⟩ := j7 (u / 256) 8 (by omega) (by omega) (by omega)
      refine ⟨8 + m, h1, ?_, by omega⟩
      rw [Nat.pow_add]
      have : (2 : Nat) ^ 8 = 256 := by decide
      rw [this]
      have := Nat.mul_le_mul_left 256 h2
      have h4 : 256 * (2 * (u / 256)) ≤ 2 * u := by omega
      omega
    · have k : ¬ decide ((u : Int) ≥ 256) = true := by simp; omega
      rw [if_neg k]
      obtain ⟨m, h1, h2, h3⟩ := j7 u 0 (by omega) (by omega) (by omega)
      exact ⟨m, by simpa using h1, h2, by omega⟩
  obtain ⟨m, e, h2, h3⟩ := j4
  refine ⟨m, g52_call ?_, h2, h3⟩
  unfold g52
  have k1 : ¬ decide ((u : Int) ≥ 4294967296) = true := by simp; omega
  rw [if_neg k1]
  unfold g52_j1
  have k2 : ¬ decide ((u : Int) ≥ 65536) = true := by simp; omega
  rw [if_neg k2]
  exact e

theorem npow54 (w : World) {u : Nat} (h0 : 1 ≤ u) (h1 : u < 65536) : ∃ m : Nat, callF Try.prog 54 #[.int .i64 (u : Int)] w = some (.int .u64 (m : Int), w) ∧ m ≤ 2 * u ∧ 1 ≤ m := by
  obtain ⟨m, e, h2, h3⟩ := lenS w h0 h1
  have e36 : callF Try.prog 36 #[.int .u64 (u : Int)] w = some (.int .i64 (m : Int), w) := g36_call (by unfold g36; simp only [e, obs, asP_pointer, asB_bool, asI_int, asS_string, asSl_slice, asM_map, asTup0, asTup1, asTup2, asTup3, asTup4, asTup5, asTup6, asTup7, asTup8, asTup9, asAgg2, asAgg3, asAgg4, asAgg5, asAgg6, asAgg7, asAgg8, asAgg9, asAgg12, getD0, getD1, getD2, getD3, getD4, getD5, getD6, getD7, getD8, getD9, getD10, getD11, getD12, getD13, getD14, getD15, getD16, getD17, getD18, getD19, Bool.not_true, Bool.not_false, Bool.false_eq_true, Bool.true_eq_false, ↓reduceIte, decide_true, decide_false, Option.isNone_some, Option.isNone_none, Option.isSome_some, Option.isSome_none, beq_self_eq_true, bne_self_eq_false, Bool.and_true, Bool.true_and, Bool.and_false, Bool.false_and, not_true_eq_false, not_false_eq_true])
  have hp : (1 : Nat) ≤ 2 ^ m := Nat.one_le_two_pow
  refine ⟨2 ^ m, g54_call ?_, h2, hp⟩
  have w1 : IntKind.u64.wrap (u : Int) = (u : Int) := wrap_u64 (by omega) (by omega)
  have hm : min ((m : Int)).toNat 64 = m := by omega
  have h4 : ¬ ((m : Int) < 0) := by omega
  unfold g54
  simp only [w1, e36, obs, asP_pointer, asB_bool, asI_int, asS_string, asSl_slice, asM_map, asTup0, asTup1, asTup2, asTup3, asTup4, asTup5, asTup6, asTup7, asTup8, asTup9, asAgg2, asAgg3, asAgg4, asAgg5, asAgg6, asAgg7, asAgg8, asAgg9, asAgg12, getD0, getD1, getD2, getD3, getD4, getD5, getD6, getD7, getD8, getD9, getD10, getD11, getD12, getD13, getD14, getD15, getD16, getD17, getD18, getD19, Bool.not_true, Bool.not_false, Bool.false_eq_true, Bool.true_eq_false, ↓reduceIte, decide_true, decide_false, Option.isNone_some, Option.isNone_none, Option.isSome_some, Option.isSome_none, beq_self_eq_true, bne_self_eq_false, Bool.and_true, Bool.true_and, Bool.and_false, Bool.false_and, not_true_eq_false, not_false_eq_true]
  rw [if_neg h4, hm]
  have hc : (1 : Int) * 2 ^ m = ((2 ^ m : Nat) : Int) := by simp
  rw [hc, wrap_u64 (by omega) (by omega)]

theorem wp_ldx {β : Type} {w : World} {p : Nat} {x : Int} {f : Int → Option β} {Q : β → Prop} (h : Blk w p [.int .u64 x] 92) (hf : wp (f x) Q) : wp ((w.cell? ⟨p, 0, none⟩).bind fun v => (asI .u64 v).bind f) Q := by
  have c0 : w.cell? ⟨p, 0, none⟩ = some (.int .u64 x) := h.cell 0
  exact wp_bind c0 (wp_bind (asI_int ..) hf)
theorem wp_stx {β : Type} {w : World} {p : Nat} {x v : Int} {f : World → Option β} {Q : β → Prop} (h : Blk w p [.int .u64 x] 92) (hf : ∀ w', Blk w' p [.int .u64 v] 92 → Fr [p] w w' → wp (f w') Q) : wp ((st1 w ⟨p, 0, none⟩ (.int .u64 v)).bind f) Q :=
  wp_bind (h.st1 (i := 0) (v := .int .u64 v) (by simp) rfl) (hf _ (h.set 0 (.int .u64 v)) Fr.setCell)

theorem next55 {w : World} {p : Nat} {x : Int} (h : Blk w p [.int .u64 x] 92) : ∃ (n y : Int) (w' : World), callF Try.prog 55 #[.pointer (some ⟨p, 0, none⟩)] w = some (.int .u64 n, w') ∧ Blk w' p [.int .u64 y] 92 ∧ Fr [p] w w' := by
  have H : wp (g55 (some ⟨p, 0, none⟩) w) (fun r => ∃ n y : Int, r.1 = .int .u64 n ∧ Blk r.2 p [.int .u64 y] 92 ∧ Fr [p] w r.2) := by
    have b0 := h.fr (Fr.drew [] w) (by simp)
    unfold g55
    refine wp_bind rfl (wp_ldx b0 (wp_bind rfl (wp_ldx b0 (wp_bind rfl (wp_stx b0 fun w1 b1 f1 => ?_)))))
    have b1' := b1.fr (Fr.drew [] w1) (by simp)
    refine wp_bind rfl (wp_ldx b1' (wp_bind rfl (wp_ldx b1' (wp_bind rfl (wp_stx b1' fun w2 b2 f2 => ?_)))))
    have b2' := b2.fr (Fr.drew [] w2) (by simp)
    refine wp_bind rfl (wp_ldx b2' (wp_bind rfl (wp_ldx b2' (wp_bind rfl (wp_stx b2' fun w3 b3 f3 => ?_)))))
    refine wp_bind rfl (wp_ldx b3 (wp_some ⟨_, _, rfl, b3, ?_⟩))
    have d1 := Fr.drew [] w
    have d2 := Fr.drew [] w1
    have d3 := Fr.drew [] w2
    exact (((((d1.app f1).app d2).app f2).app d3).app f3).mono (by intro y hy _; simpa using hy)
  obtain ⟨⟨v, w'⟩, e, n, y, rfl, hb, hf⟩ := H
  exact ⟨n, y, w', g55_call e, hb, hf⟩

section
variable {q : ShS} {g off : Nat} {W w : World}
theorem J.other (h : J q g off W w) {p : Nat} {w' : World} (f : Fr [p] w w') (hp : p ∉ blkOf q) (hW : W.heap.size ≤ p) : J q g off W w' := by
  obtain ⟨a, ⟨xs, o, hs⟩, fr, l⟩ := h
  exact ⟨a, ⟨xs, o.fr f (by intro y hy hm; simp at hm; subst hm; exact hp hy), hs⟩, (fr.app f).mono (by intro y hy hlt; simp at hy; rcases hy with hy | hy; exact hy; omega), l⟩
theorem J.notin (h : J q g off W w) {p : Nat} {cs : List Value} {T : TypeId} (hb : Blk w p cs T) (hT : T ≠ 9) : p ∉ blkOf q := by
  obtain ⟨xs, o, hs⟩ := h.ss
  exact hb.notin o hT

theorem order59 (h : J q g off W w) {p : Nat} {c : Int} (hb : Blk w p [.int .i64 c] 3) (hW : W.heap.size ≤ p) {i j : Int} (hi : 0 ≤ i ∧ i < (q.2.1 : Int)) (hj : 0 ≤ j ∧ j < (q.2.1 : Int)) :
    ∃ (x y c' : Int) (w' : World), callF Try.prog 59 #[.slice q.1 q.2.1 q.2.2, .int .i64 i, .int .i64 j, .pointer (some ⟨p, 0, none⟩)] w = some (.tuple #[.int .i64 x, .int .i64 y], w') ∧ J q g off W w' ∧ Blk w' p [.int .i64 c'] 3 ∧ (x = i ∧ y = j ∨ x = j ∧ y = i) := by
  have H : wp (g59 q i j (some ⟨p, 0, none⟩) w) (fun r => ∃ x y c' : Int, r.1 = .tuple #[.int .i64 x, .int .i64 y] ∧ J q g off W r.2 ∧ Blk r.2 p [.int .i64 c'] 3 ∧ (x = i ∧ y = j ∨ x = j ∧ y = i)) := by
    have b0 := hb.fr (Fr.drew [] w) (by simp)
    unfold g59
    (first | (refine wp_ix (by (first | assumption | (apply J.drew; assumption) | (apply J.drew; apply J.drew; assumption) | (apply J.drew; apply J.drew; apply J.drew; assumption) | (apply J.drew; apply J.drew; apply J.drew; apply J.drew; assumption) | (apply J.drew; apply J.drew; apply J.drew; apply J.drew; apply J.drew; assumption))) (by omega) (by omega) ?_) | (refine wp_ld (by (first | assumption | (apply J.drew; assumption) | (apply J.drew; apply J.drew; assumption) | (apply J.drew; apply J.drew; apply J.drew; assumption) | (apply J.drew; apply J.drew; apply J.drew; apply J.drew; assumption) | (apply J.drew; apply J.drew; apply J.drew; apply J.drew; apply J.drew; assumption))) (by omega) (by omega) fun _ => ?_) | (refine wp_st (by (first | assumption | (apply J.drew; assumption) | (apply J.drew; apply J.drew; assumption) | (apply J.drew; apply J.drew; apply J.drew; assumption) | (apply J.drew; apply J.drew; apply J.drew; apply J.drew; assumption) | (apply J.drew; apply J.drew; apply J.drew; apply J.drew; apply J.drew; assumption))) (by omega) (by omega) fun _ _ => ?_) | (refine wp_less fun _ => wp_bind (asB_bool _) ?_)); (first | (refine wp_ix (by (first | assumption | (apply J.drew; assumption) | (apply J.drew; apply J.drew; assumption) | (apply J.drew; apply J.drew; apply J.drew; assumption) | (apply J.drew; apply J.drew; apply J.drew; apply J.drew; assumption) | (apply J.drew; apply J.drew; apply J.drew; apply J.drew; apply J.drew; assumption))) (by omega) (by omega) ?_) | (refine wp_ld (by (first | assumption | (apply J.drew; assumption) | (apply J.drew; apply J.drew; assumption) | (apply J.drew; apply J.drew; apply J.drew; assumption) | (apply J.drew; apply J.drew; apply J.drew; apply J.drew; assumption) | (apply J.drew; apply J.drew; apply J.drew; apply J.drew; apply J.drew; assumption))) (by omega) (by omega) fun _ => ?_) | (refine wp_st (by (first | assumption | (apply J.drew; assumption) | (apply J.drew; apply J.drew; assumption) | (apply J.drew; apply J.drew; apply J.drew; assumption) | (apply J.drew; apply J.drew; apply J.drew; apply J.drew; assumption) | (apply J.drew; apply J.drew; apply J.drew; apply J.drew; apply J.drew; assumption))) (by omega) (by omega) fun _ _ => ?_) | (refine wp_less fun _ => wp_bind (asB_bool _) ?_)); (first | (refine wp_ix (by (first | assumption | (apply J.drew; assumption) | (apply J.drew; apply J.drew; assumption) | (apply J.drew; apply J.drew; apply J.drew; assumption) | (apply J.drew; apply J.drew; apply J.drew; apply J.drew; assumption) | (apply J.drew; apply J.drew; apply J.drew; apply J.drew; apply J.drew; assumption))) (by omega) (by omega) ?_) | (refine wp_ld (by (first | assumption | (apply J.drew; assumption) | (apply J.drew; apply J.drew; assumption) | (apply J.drew; apply J.drew; apply J.drew; assumption) | (apply J.drew; apply J.drew; apply J.drew; apply J.drew; assumption) | (apply J.drew; apply J.drew; apply J.drew; apply J.drew; apply J.drew; assumption))) (by omega) (by omega) fun _ => ?_) | (refine wp_st (by (first | assumption | (apply J.drew; assumption) | (apply J.drew; apply J.drew; assumption) | (apply J.drew; apply J.drew; apply J.drew; assumption) | (apply J.drew; apply J.drew; apply J.drew; apply J.drew; assumption) | (apply J.drew; apply J.drew; apply J.drew; apply J.drew; apply J.drew; assumption))) (by omega) (by omega) fun _ _ => ?_) | (refine wp_less fun _ => wp_bind (asB_bool _) ?_)); (first | (refine wp_ix (by (first | assumption | (apply J.drew; assumption) | (apply J.drew; apply J.drew; assumption) | (apply J.drew; apply J.drew; apply J.drew; assumption) | (apply J.drew; apply J.drew; apply J.drew; apply J.drew; assumption) | (apply J.drew; apply J.drew; apply J.drew; apply J.drew; apply J.drew; assumption))) (by omega) (by omega) ?_) | (refine wp_ld (by (first | assumption | (apply J.drew; assumption) | (apply J.drew; apply J.drew; assumption) | (apply J.drew; apply J.drew; apply J.drew; assumption) | (apply J.drew; apply J.drew; apply J.drew; apply J.drew; assumption) | (apply J.drew; apply J.drew; apply J.drew; apply J.drew; apply J.drew; assumption))) (by omega) (by omega) fun _ => ?_) | (refine wp_st (by (first | assumption | (apply J.drew; assumption) | (apply J.drew; apply J.drew; assumption) | (apply J.drew; apply J.drew; apply J.drew; assumption) | (apply J.drew; apply J.drew; apply J.drew; apply J.drew; assumption) | (apply J.drew; apply J.drew; apply J.drew; apply J.drew; apply J.drew; assumption))) (by omega) (by omega) fun _ _ => ?_) | (refine wp_less fun _ => wp_bind (asB_bool _) ?_)); (first | (refine wp_ix (by (first | assumption | (apply J.drew; assumption) | (apply J.drew; apply J.drew; assumption) | (apply J.drew; apply J.drew; apply J.drew; assumption) | (apply J.drew; apply J.drew; apply J.drew; apply J.drew; assumption) | (apply J.drew; apply J.drew; apply J.drew; apply J.drew; apply J.drew; assumption))) (by omega) (by omega) ?_) | (refine wp_ld (by (first | assumption | (apply J.drew; assumption) | (apply J.drew; apply J.drew; assumption) | (apply J.drew; apply J.drew; apply J.drew; assumption) | (apply J.drew; apply J.drew; apply J.drew; apply J.drew; assumption) | (apply J.drew; apply J.drew; apply J.drew; apply J.drew; apply J.drew; assumption))) (by omega) (by omega) fun _ => ?_) | (refine wp_st (by (first | assumption | (apply J.drew; assumption) | (apply J.drew; apply J.drew; assumption) | (apply J.drew; apply J.drew; apply J.drew; assumption) | (apply J.drew; apply J.drew; apply J.drew; apply J.drew; assumption) | (apply J.drew; apply J.drew; apply J.drew; apply J.drew; apply J.drew; assumption))) (by omega) (by omega) fun _ _ => ?_) | (refine wp_less fun _ => wp_bind (asB_bool _) ?_))
    refine wp_if (fun _ => ?_) (fun _ => wp_some ⟨_, _, _, rfl, by (first | assumption | (apply J.drew; assumption) | (apply J.drew; apply J.drew; assumption) | (apply J.drew; apply J.drew; apply J.drew; assumption) | (apply J.drew; apply J.drew; apply J.drew; apply J.drew; assumption) | (apply J.drew; apply J.drew; apply J.drew; apply J.drew; apply J.drew; assumption)), b0, .inl ⟨rfl, rfl⟩⟩)
    have c0 : w.drew.cell? ⟨p, 0, none⟩ = some (.int .i64 c) := b0.cell 0
    refine wp_bind rfl (wp_bind c0 (wp_bind (asI_int ..) (wp_bind rfl ?_)))
    have s := b0.st1 (i := 0) (v := .int .i64 (IntKind.i64.wrap (c + 1))) (by simp) rfl
    refine wp_bind s (wp_some ⟨_, _, _, rfl, ?_, b0.set 0 _, .inr ⟨rfl, rfl⟩⟩)
    exact h.drew.other Fr.setCell (h.notin hb (by decide)) hW
  obtain ⟨⟨v, w'⟩, e, x, y, c', rfl, h1, h2, h3⟩ := H
  exact ⟨x, y, c', w', g59_call e, h1, h2, h3⟩

theorem median57 (h : J q g off W w) {p : Nat} {c : Int} (hb : Blk w p [.int .i64 c] 3) (hW : W.heap.size ≤ p) {i j k : Int} (hi : 0 ≤ i ∧ i < (q.2.1 : Int)) (hj : 0 ≤ j ∧ j < (q.2.1 : Int)) (hk : 0 ≤ k ∧ k < (q.2.1 : Int)) :
    ∃ (x c' : Int) (w' : World), callF Try.prog 57 #[.slice q.1 q.2.1 q.2.2, .int .i64 i, .int .i64 j, .int .i64 k, .pointer (some ⟨p, 0, none⟩)] w = some (.int .i64 x, w') ∧ J q g off W w' ∧ Blk w' p [.int .i64 c'] 3 ∧ (x = i ∨ x = j ∨ x = k) := by
  obtain ⟨x1, y1, c1, w1, e1, h1, b1, o1⟩ := order59 h hb hW hi hj
  obtain ⟨x2, y2, c2, w2, e2, h2, b2, o2⟩ := order59 h1 b1 hW (i := y1) (j := k) (by rcases o1 with ⟨_, rfl⟩ | ⟨_, rfl⟩ <;> assumption) hk
  obtain ⟨x3, y3, c3, w3, e3, h3, b3, o3⟩ := order59 h2 b2 hW (i := x1) (j := x2) (by rcases o1 with ⟨rfl, _⟩ | ⟨rfl, _⟩ <;> assumption) (by
    rcases o2 with ⟨rfl, _⟩ | ⟨rfl, _⟩
    · rcases o1 with ⟨_, rfl⟩ | ⟨_, rfl⟩ <;> assumption
    · assumption)
  refine ⟨y3, c3, w3, g57_call ?_, h3, b3, by omega⟩
  unfold g57
  simp only [e1, e2, e3, obs, asP_pointer, asB_bool, asI_int, asS_string, asSl_slice, asM_map, asTup0, asTup1, asTup2, asTup3, asTup4, asTup5, asTup6, asTup7, asTup8, asTup9, asAgg2, asAgg3, asAgg4, asAgg5, asAgg6, asAgg7, asAgg8, asAgg9, asAgg12, getD0, getD1, getD2, getD3, getD4, getD5, getD6, getD7, getD8, getD9, getD10, getD11, getD12, getD13, getD14, getD15, getD16, getD17, getD18, getD19, Bool.not_true, Bool.not_false, Bool.false_eq_true, Bool.true_eq_false, ↓reduceIte, decide_true, decide_false, Option.isNone_some, Option.isNone_none, Option.isSome_some, Option.isSome_none, beq_self_eq_true, bne_self_eq_false, Bool.and_true, Bool.true_and, Bool.and_false, Bool.false_and, not_true_eq_false, not_false_eq_true]

theorem medAdj56 (h : J q g off W w) {p : Nat} {c : Int} (hb : Blk w p [.int .i64 c] 3) (hW : W.heap.size ≤ p) {i : Int} (hi : 1 ≤ i ∧ i + 1 < (q.2.1 : Int)) :
    ∃ (x c' : Int) (w' : World), callF Try.prog 56 #[.slice q.1 q.2.1 q.2.2, .int .i64 i, .pointer (some ⟨p, 0, none⟩)] w = some (.int .i64 x, w') ∧ J q g off W w' ∧ Blk w' p [.int .i64 c'] 3 ∧ i - 1 ≤ x ∧ x ≤ i + 1 := by
  have hle := h.le
  obtain ⟨x, c', w', e, h1, b1, o⟩ := median57 h hb hW (i := i - 1) (j := i) (k := i + 1) (by omega) (by omega) (by omega)
  refine ⟨x, c', w', g56_call ?_, h1, b1, by omega⟩
  unfold g56
  rw [wrap_i64 (by omega) (by omega), wrap_i64 (by omega) (by omega)]
  simp only [e, obs, asP_pointer, asB_bool, asI_int, asS_string, asSl_slice, asM_map, asTup0, asTup1, asTup2, asTup3, asTup4, asTup5, asTup6, asTup7, asTup8, asTup9, asAgg2, asAgg3, asAgg4, asAgg5, asAgg6, asAgg7, asAgg8, asAgg9, asAgg12, getD0, getD1, getD2, getD3, getD4, getD5, getD6, getD7, getD8, getD9, getD10, getD11, getD12, getD13, getD14, getD15, getD16, getD17, getD18, getD19, Bool.not_true, Bool.not_false, Bool.false_eq_true, Bool.true_eq_false, ↓reduceIte, decide_true, decide_false, Option.isNone_some, Option.isNone_none, Option.isSome_some, Option.isSome_none, beq_self_eq_true, bne_self_eq_false, Bool.and_true, Bool.true_and, Bool.and_false, Bool.false_and, not_true_eq_false, not_false_eq_true]

theorem pivot45 (h : J q g off W w) {a b : Int} (h0 : 0 ≤ a) (hab : a < b) (hb : b ≤ (q.2.1 : Int)) :
    ∃ (x c : Int) (w' : World), callF Try.prog 45 #[.slice q.1 q.2.1 q.2.2, .int .i64 a, .int .i64 b] w = some (.tuple #[.int .i64 x, .int .i64 c], w') ∧ J q g off W w' ∧ a ≤ x ∧ x < b := by
  have hle := h.le
  have fa : Fr [] w (w.alloc (.cells #[.int .i64 0] 3)) := Fr.alloc _
  have ba : Blk (w.alloc (.cells #[.int .i64 0] 3)) w.heap.size [.int .i64 0] 3 := Blk.new w [.int .i64 0] 3
  obtain ⟨w1, hw1⟩ : ∃ w1, w.alloc (.cells #[.int .i64 0] 3) = w1 := ⟨_, rfl⟩
  rw [hw1] at fa ba
  have hW := h.fr.size
  have h1 := h.aside fa
  have j1 : ∀ (x : Int) (y : World) (c : Int), J q g off W y → Blk y w.heap.size [.int .i64 c] 3 → ∃ c', g45_j1 w x y = some (.tuple #[.int .i64 x, .int .i64 c'], y) := by
    intro x y c hy hb
    have c0 : y.cell? ⟨w.heap.size, 0, none⟩ = some (.int .i64 c) := hb.cell 0
    unfold g45_j1
    simp only [c0, obs, asP_pointer, asB_bool, asI_int, asS_string, asSl_slice, asM_map, asTup0, asTup1, asTup2, asTup3, asTup4, asTup5, asTup6, asTup7, asTup8, asTup9, asAgg2, asAgg3, asAgg4, asAgg5, asAgg6, asAgg7, asAgg8, asAgg9, asAgg12, getD0, getD1, getD2, getD3, getD4, getD5, getD6, getD7, getD8, getD9, getD10, getD11, getD12, getD13, getD14, getD15, getD16, getD17, getD18, getD19, Bool.not_true, Bool.not_false, Bool.false_eq_true, Bool.true_eq_false, ↓reduceIte, decide_true, decide_false, Option.isNone_some, Option.isNone_none, Option.isSome_some, Option.isSome_none, beq_self_eq_true, bne_self_eq_false, Bool.and_true, Bool.true_and, Bool.and_false, Bool.false_and, not_true_eq_false, not_false_eq_true]
    split
    · exact ⟨_, rfl⟩
    · split
      · exact ⟨_, rfl⟩
      · exact ⟨_, rfl⟩
  have j2 : ∀ (x y z : Int) (u : World) (c : Int), J q g off W u → Blk u w.heap.size [.int .i64 c] 3 → (a ≤ x ∧ x < b) → (a ≤ y ∧ y < b) → (a ≤ z ∧ z < b) → ∃ (r c' : Int) (u' : World), g45_j2 q w x y z u = some (.tuple #[.int .i64 r, .int .i64 c'], u') ∧ J q g off W u' ∧ a ≤ r ∧ r < b := by
    intro x y z u c hu hb2 hx hy hz
    obtain ⟨r, c1, u1, e, k1, b1, o⟩ := median57 hu hb2 hW (i := x) (j := y) (k := z) (by omega) (by omega) (by omega)
    obtain ⟨c2, e2⟩ := j1 r u1 c1 k1 b1
    refine ⟨r, c2, u1, ?_, k1, by omega⟩
    unfold g45_j2
    simp only [e, obs, asP_pointer, asB_bool, asI_int, asS_string, asSl_slice, asM_map, asTup0, asTup1, asTup2, asTup3, asTup4, asTup5, asTup6, asTup7, asTup8, asTup9, asAgg2, asAgg3, asAgg4, asAgg5, asAgg6, asAgg7, asAgg8, asAgg9, asAgg12, getD0, getD1, getD2, getD3, getD4, getD5, getD6, getD7, getD8, getD9, getD10, getD11, getD12, getD13, getD14, getD15, getD16, getD17, getD18, getD19, Bool.not_true, Bool.not_false, Bool.false_eq_true, Bool.true_eq_false, ↓reduceIte, decide_true, decide_false, Option.isNone_some, Option.isNone_none, Option.isSome_some, Option.isSome_none, beq_self_eq_true, bne_self_eq_false, Bool.and_true, Bool.true_and, Bool.and_false, Bool.false_and, not_true_eq_false, not_false_eq_true]
    exact e2
  have H : ∃ (x c : Int) (w' : World), g45 q a b w = some (.tuple #[.int .i64 x, .int .i64 c], w') ∧ J q g off W w' ∧ a ≤ x ∧ x < b := by
    unfold g45
    rw [hw1]
    simp (disch := omega) only [wrap_i64, Int.tdiv_eq_ediv_of_nonneg]
    by_cases k8 : b - a ≥ 8
    · rw [if_pos (by simp; omega)]
      by_cases k50 : b - a ≥ 50
      · rw [if_pos (by simp; omega)]
        obtain ⟨x1, c1, u1, e1, i1, b1, o1⟩ := medAdj56 h1 ba hW (i := a + (b - a) / 4 * 1) (by omega)
        obtain ⟨x2, c2, u2, e2, i2, b2, o2⟩ := medAdj56 i1 b1 hW (i := a + (b - a) / 4 * 2) (by omega)
        obtain ⟨x3, c3, u3, e3, i3, b3, o3⟩ := medAdj56 i2 b2 hW (i := a + (b - a) / 4 * 3) (by omega)
        obtain ⟨r, c4, u4, e4, i4, o4⟩ := j2 x1 x2 x3 u3 c3 i3 b3 (by omega) (by omega) (by omega)
        refine ⟨r, c4, u4, ?_, i4, o4⟩
        simp only [e1, e2, e3, obs, asP_pointer, asB_bool, asI_int, asS_string, asSl_slice, asM_map, asTup0, asTup1, asTup2, asTup3, asTup4, asTup5, asTup6, asTup7, asTup8, asTup9, asAgg2, asAgg3, asAgg4, asAgg5, asAgg6, asAgg7, asAgg8, asAgg9, asAgg12, getD0, getD1, getD2, getD3, getD4, getD5, getD6, getD7, getD8, getD9, getD10, getD11, getD12, getD13, getD14, getD15, getD16, getD17, getD18, getD19, Bool.not_true, Bool.not_false, Bool.false_eq_true, Bool.true_eq_false, ↓reduceIte, decide_true, decide_false, Option.isNone_some, Option.isNone_none, Option.isSome_some, Option.isSome_none, beq_self_eq_true, bne_self_eq_false, Bool.and_true, Bool.true_and, Bool.and_false, Bool.false_and, not_true_eq_false, not_false_eq_true]
        exact e4
      · rw [if_neg (by simp; omega)]
        exact j2 _ _ _ _ _ h1 ba (by omega) (by omega) (by omega)
    · rw [if_neg (by simp; omega)]
      obtain ⟨c', e⟩ := j1 (a + (b - a) / 4 * 2) w1 0 h1 ba
      exact ⟨_, c', w1, e, h1, by omega, by omega⟩
  obtain ⟨x, c, w', e, r⟩ := H
  exact ⟨x, c, w', g45_call e, r⟩

theorem break44 (h : J q g off W w) {a b : Int} (h0 : 0 ≤ a) (hab : a < b) (hb : b ≤ (q.2.1 : Int)) (hn : q.2.1 < 65536) :
    ∃ w', callF Try.prog 44 #[.slice q.1 q.2.1 q.2.2, .int .i64 a, .int .i64 b] w = some (.tuple #[], w') ∧ J q g off W w' := by
  have hle := h.le
  have hW := h.fr.size
  by_cases k8 : b - a ≥ 8
  case neg =>
    refine ⟨w, g44_call ?_, h⟩
    unfold g44
    simp (disch := omega) only [wrap_i64]
    rw [if_neg (by simp; omega)]
  have fa : Fr [] w (w.alloc (.cells #[.int .u64 0] 92)) := Fr.alloc _
  have ba : Blk (w.alloc (.cells #[.int .u64 0] 92)) w.heap.size [.int .u64 0] 92 := Blk.new w [.int .u64 0] 92
  obtain ⟨w1, hw1⟩ : ∃ w1, w.alloc (.cells #[.int .u64 0] 92) = w1 := ⟨_, rfl⟩
  rw [hw1] at fa ba
  have h1 := h.aside fa
  have s2 := ba.st1 (i := 0) (v := .int .u64 (IntKind.u64.wrap (b - a))) (by simp) rfl
  have b2 := ba.set 0 (.int .u64 (IntKind.u64.wrap (b - a)))
  have f2 : Fr [w.heap.size] w1 (w1.setCell ⟨w.heap.size, 0, none⟩ (.int .u64 (IntKind.u64.wrap (b - a)))) := Fr.setCell
  obtain ⟨w2, hw2⟩ : ∃ w2, w1.setCell ⟨w.heap.size, 0, none⟩ (.int .u64 (IntKind.u64.wrap (b - a))) = w2 := ⟨_, rfl⟩
  rw [hw2] at s2 b2 f2
  have h2 := h1.other f2 (h1.notin ba (by decide)) hW
  obtain ⟨l, hl⟩ : ∃ l : Nat, b - a = (l : Int) := ⟨(b - a).toNat, by omega⟩
  obtain ⟨m, e3, m1, m2⟩ := npow54 w2 (u := l) (by omega) (by omega)
  obtain ⟨e, t, w', g1, rfl, hJ, _⟩ := loop_wp (b := g44_l4_b a b w (m : Int) q) (I := fun s x => a ≤ s ∧ J q g off W x ∧ ∃ v, Blk x w.heap.size [.int .u64 v] 92) (Q := fun e s x => e = .exit 0 ∧ J q g off W x ∧ True) (fun s => (a + (b - a) / 4 * 2 + 2 - s).toNat)
    (fun s x ⟨hs, hx, v, hv⟩ => by
      unfold g44_l4_b
      simp (disch := omega) only [wrap_i64, Int.tdiv_eq_ediv_of_nonneg]
      refine wp_if (fun c => ?_) (fun c => wp_some (.inr ⟨by simp, rfl, hx, trivial⟩))
      simp only [decide_eq_true_eq] at c
      obtain ⟨n, y, x1, e5, b5, f5⟩ := next55 hv
      refine wp_bind e5 (wp_bind (asI_int ..) ?_)
      have i5 := hx.other f5 (hx.notin hv (by decide)) hW
      have hu : IntKind.u64.wrap ((m : Int) - 1) = ((m - 1 : Nat) : Int) := by rw [wrap_u64 (by omega) (by omega)]; omega
      rw [hu]
      obtain ⟨o, ho⟩ : ∃ o, (BitVec.ofInt 64 n &&& BitVec.ofInt 64 ((m - 1 : Nat) : Int)).toNat = o := ⟨_, rfl⟩
      have ho2 : o ≤ m - 1 := by
        rw [← ho, BitVec.toNat_and]
        refine Nat.le_trans Nat.and_le_right ?_
        rw [BitVec.toNat_ofInt]
        have : (((m - 1 : Nat) : Int) % (2 ^ 64 : Nat)).toNat = m - 1 := by
          rw [Int.emod_eq_of_lt (by omega) (by omega)]; omega
        omega
      rw [ho]
      have j0 := i5.refl
      have fin : ∀ y : World, J q g off x1 y → wp (some (Exit.normal, s + 1, y)) (fun r => r.1 = .normal ∧ (a ≤ r.2.1 ∧ J q g off W r.2.2 ∧ ∃ v, Blk r.2.2 w.heap.size [.int .u64 v] 92) ∧ (a + (b - a) / 4 * 2 + 2 - r.2.1).toNat < (a + (b - a) / 4 * 2 + 2 - s).toNat ∨ r.1 ≠ .normal ∧ r.1 = .exit 0 ∧ J q g off W r.2.2 ∧ True) := fun y hy =>
        wp_some (.inl ⟨rfl, ⟨by (first | omega | (simp only; omega) | (simp only at *; omega)), i5.trans hy, _, b5.fr hy.fr (i5.notin b5 (by decide))⟩, by (first | omega | (simp only; omega) | (simp only at *; omega))⟩)
      simp (disch := omega) only [wrap_i64, wrap_u64]
      refine wp_if (fun c2 => ?_) (fun c2 => ?_)
      · simp only [decide_eq_true_eq] at c2
        try simp (disch := omega) only [wrap_i64, wrap_u64]
        (first | (refine wp_ix (by (first | assumption | (apply J.drew; assumption) | (apply J.drew; apply J.drew; assumption) | (apply J.drew; apply J.drew; apply J.drew; assumption) | (apply J.drew; apply J.drew; apply J.drew; apply J.drew; assumption) | (apply J.drew; apply J.drew; apply J.drew; apply J.drew; apply J.drew; assumption))) (by omega) (by omega) ?_) | (refine wp_ld (by (first | assumption | (apply J.drew; assumption) | (apply J.drew; apply J.drew; assumption) | (apply J.drew; apply J.drew; apply J.drew; assumption) | (apply J.drew; apply J.drew; apply J.drew; apply J.drew; assumption) | (apply J.drew; apply J.drew; apply J.drew; apply J.drew; apply J.drew; assumption))) (by omega) (by omega) fun _ => ?_) | (refine wp_st (by (first | assumption | (apply J.drew; assumption) | (apply J.drew; apply J.drew; assumption) | (apply J.drew; apply J.drew; apply J.drew; assumption) | (apply J.drew; apply J.drew; apply J.drew; apply J.drew; assumption) | (apply J.drew; apply J.drew; apply J.drew; apply J.drew; apply J.drew; assumption))) (by omega) (by omega) fun _ _ => ?_) | (refine wp_less fun _ => wp_bind (asB_bool _) ?_)); (first | (refine wp_ix (by (first | assumption | (apply J.drew; assumption) | (apply J.drew; apply J.drew; assumption) | (apply J.drew; apply J.drew; apply J.drew; assumption) | (apply J.drew; apply J.drew; apply J.drew; apply J.drew; assumption) | (apply J.drew; apply J.drew; apply J.drew; apply J.drew; apply J.drew; assumption))) (by omega) (by omega) ?_) | (refine wp_ld (by (first | assumption | (apply J.drew; assumption) | (apply J.drew; apply J.drew; assumption) | (apply J.drew; apply J.drew; apply J.drew; assumption) | (apply J.drew; apply J.drew; apply J.drew; apply J.drew; assumption) | (apply J.drew; apply J.drew; apply J.drew; apply J.drew; apply J.drew; assumption))) (by omega) (by omega) fun _ => ?_) | (refine wp_st (by (first | assumption | (apply J.drew; assumption) | (apply J.drew; apply J.drew; assumption) | (apply J.drew; apply J.drew; apply J.drew; assumption) | (apply J.drew; apply J.drew; apply J.drew; apply J.drew; assumption) | (apply J.drew; apply J.drew; apply J.drew; apply J.drew; apply J.drew; assumption))) (by omega) (by omega) fun _ _ => ?_) | (refine wp_less fun _ => wp_bind (asB_bool _) ?_)); (first | (refine wp_ix (by (first | assumption | (apply J.drew; assumption) | (apply J.drew; apply J.drew; assumption) | (apply J.drew; apply J.drew; apply J.drew; assumption) | (apply J.drew; apply J.drew; apply J.drew; apply J.drew; assumption) | (apply J.drew; apply J.drew; apply J.drew; apply J.drew; apply J.drew; assumption))) (by omega) (by omega) ?_) | (refine wp_ld (by (first | assumption | (apply J.drew; assumption) | (apply J.drew; apply J.drew; assumption) | (apply J.drew; apply J.drew; apply J.drew; assumption) | (apply J.drew; apply J.drew; apply J.drew; apply J.drew; assumption) | (apply J.drew; apply J.drew; apply J.drew; apply J.drew; apply J.drew; assumption))) (by omega) (by omega) fun _ => ?_) | (refine wp_st (by (first | assumption | (apply J.drew; assumption) | (apply J.drew; apply J.drew; assumption) | (apply J.drew; apply J.drew; apply J.drew; assumption) | (apply J.drew; apply J.drew; apply J.drew; apply J.drew; assumption) | (apply J.drew; apply J.drew; apply J.drew; apply J.drew; apply J.drew; assumption))) (by omega) (by omega) fun _ _ => ?_) | (refine wp_less fun _ => wp_bind (asB_bool _) ?_)); (first | (refine wp_ix (by (first | assumption | (apply J.drew; assumption) | (apply J.drew; apply J.drew; assumption) | (apply J.drew; apply J.drew; apply J.drew; assumption) | (apply J.drew; apply J.drew; apply J.drew; apply J.drew; assumption) | (apply J.drew; apply J.drew; apply J.drew; apply J.drew; apply J.drew; assumption))) (by omega) (by omega) ?_) | (refine wp_ld (by (first | assumption | (apply J.drew; assumption) | (apply J.drew; apply J.drew; assumption) | (apply J.drew; apply J.drew; apply J.drew; assumption) | (apply J.drew; apply J.drew; apply J.drew; apply J.drew; assumption) | (apply J.drew; apply J.drew; apply J.drew; apply J.drew; apply J.drew; assumption))) (by omega) (by omega) fun _ => ?_) | (refine wp_st (by (first | assumption | (apply J.drew; assumption) | (apply J.drew; apply J.drew; assumption) | (apply J.drew; apply J.drew; apply J.drew; assumption) | (apply J.drew; apply J.drew; apply J.drew; apply J.drew; assumption) | (apply J.drew; apply J.drew; apply J.drew; apply J.drew; apply J.drew; assumption))) (by omega) (by omega) fun _ _ => ?_) | (refine wp_less fun _ => wp_bind (asB_bool _) ?_)); (first | (refine wp_ix (by (first | assumption | (apply J.drew; assumption) | (apply J.drew; apply J.drew; assumption) | (apply J.drew; apply J.drew; apply J.drew; assumption) | (apply J.drew; apply J.drew; apply J.drew; apply J.drew; assumption) | (apply J.drew; apply J.drew; apply J.drew; apply J.drew; apply J.drew; assumption))) (by omega) (by omega) ?_) | (refine wp_ld (by (first | assumption | (apply J.drew; assumption) | (apply J.drew; apply J.drew; assumption) | (apply J.drew; apply J.drew; apply J.drew; assumption) | (apply J.drew; apply J.drew; apply J.drew; apply J.drew; assumption) | (apply J.drew; apply J.drew; apply J.drew; apply J.drew; apply J.drew; assumption))) (by omega) (by omega) fun _ => ?_) | (refine wp_st (by (first | assumption | (apply J.drew; assumption) | (apply J.drew; apply J.drew; assumption) | (apply J.drew; apply J.drew; apply J.drew; assumption) | (apply J.drew; apply J.drew; apply J.drew; apply J.drew; assumption) | (apply J.drew; apply J.drew; apply J.drew; apply J.drew; apply J.drew; assumption))) (by omega) (by omega) fun _ _ => ?_) | (refine wp_less fun _ => wp_bind (asB_bool _) ?_)); (first | (refine wp_ix (by (first | assumption | (apply J.drew; assumption) | (apply J.drew; apply J.drew; assumption) | (apply J.drew; apply J.drew; apply J.drew; assumption) | (apply J.drew; apply J.drew; apply J.drew; apply J.drew; assumption) | (apply J.drew; apply J.drew; apply J.drew; apply J.drew; apply J.drew; assumption))) (by omega) (by omega) ?_) | (refine wp_ld (by (first | assumption | (apply J.drew; assumption) | (apply J.drew; apply J.drew; assumption) | (apply J.drew; apply J.drew; apply J.drew; assumption) | (apply J.drew; apply J.drew; apply J.drew; apply J.drew; assumption) | (apply J.drew; apply J.drew; apply J.drew; apply J.drew; apply J.drew; assumption))) (by omega) (by omega) fun _ => ?_) | (refine wp_st (by (first | assumption | (apply J.drew; assumption) | (apply J.drew; apply J.drew; assumption) | (apply J.drew; apply J.drew; apply J.drew; assumption) | (apply J.drew; apply J.drew; apply J.drew; apply J.drew; assumption) | (apply J.drew; apply J.drew; apply J.drew; apply J.drew; apply J.drew; assumption))) (by omega) (by omega) fun _ _ => ?_) | (refine wp_less fun _ => wp_bind (asB_bool _) ?_)); (first | (refine wp_ix (by (first | assumption | (apply J.drew; assumption) | (apply J.drew; apply J.drew; assumption) | (apply J.drew; apply J.drew; apply J.drew; assumption) | (apply J.drew; apply J.drew; apply J.drew; apply J.drew; assumption) | (apply J.drew; apply J.drew; apply J.drew; apply J.drew; apply J.drew; assumption))) (by omega) (by omega) ?_) | (refine wp_ld (by (first | assumption | (apply J.drew; assumption) | (apply J.drew; apply J.drew; assumption) | (apply J.drew; apply J.drew; apply J.drew; assumption) | (apply J.drew; apply J.drew; apply J.drew; apply J.drew; assumption) | (apply J.drew; apply J.drew; apply J.drew; apply J.drew; apply J.drew; assumption))) (by omega) (by omega) fun _ => ?_) | (refine wp_st (by (first | assumption | (apply J.drew; assumption) | (apply J.drew; apply J.drew; assumption) | (apply J.drew; apply J.drew; apply J.drew; assumption) | (apply J.drew; apply J.drew; apply J.drew; apply J.drew; assumption) | (apply J.drew; apply J.drew; apply J.drew; apply J.drew; apply J.drew; assumption))) (by omega) (by omega) fun _ _ => ?_) | (refine wp_less fun _ => wp_bind (asB_bool _) ?_)); (first | (refine wp_ix (by (first | assumption | (apply J.drew; assumption) | (apply J.drew; apply J.drew; assumption) | (apply J.drew; apply J.drew; apply J.drew; assumption) | (apply J.drew; apply J.drew; apply J.drew; apply J.drew; assumption) | (apply J.drew; apply J.drew; apply J.drew; apply J.drew; apply J.drew; assumption))) (by omega) (by omega) ?_) | (refine wp_ld (by (first | assumption | (apply J.drew; assumption) | (apply J.drew; apply J.drew; assumption) | (apply J.drew; apply J.drew; apply J.drew; assumption) | (apply J.drew; apply J.drew; apply J.drew; apply J.drew; assumption) | (apply J.drew; apply J.drew; apply J.drew; apply J.drew; apply J.drew; assumption))) (by omega) (by omega) fun _ => ?_) | (refine wp_st (by (first | assumption | (apply J.drew; assumption) | (apply J.drew; apply J.drew; assumption) | (apply J.drew; apply J.drew; apply J.drew; assumption) | (apply J.drew; apply J.drew; apply J.drew; apply J.drew; assumption) | (apply J.drew; apply J.drew; apply J.drew; apply J.drew; apply J.drew; assumption))) (by omega) (by omega) fun _ _ => ?_) | (refine wp_less fun _ => wp_bind (asB_bool _) ?_))
        exact fin _ (by (first | assumption | (apply J.drew; assumption) | (apply J.drew; apply J.drew; assumption) | (apply J.drew; apply J.drew; apply J.drew; assumption) | (apply J.drew; apply J.drew; apply J.drew; apply J.drew; assumption) | (apply J.drew; apply J.drew; apply J.drew; apply J.drew; apply J.drew; assumption)))
      · simp only [decide_eq_true_eq] at c2
        try simp (disch := omega) only [wrap_i64, wrap_u64]
        (first | (refine wp_ix (by (first | assumption | (apply J.drew; assumption) | (apply J.drew; apply J.drew; assumption) | (apply J.drew; apply J.drew; apply J.drew; assumption) | (apply J.drew; apply J.drew; apply J.drew; apply J.drew; assumption) | (apply J.drew; apply J.drew; apply J.drew; apply J.drew; apply J.drew; assumption))) (by omega) (by omega) ?_) | (refine wp_ld (by (first | assumption | (apply J.drew; assumption) | (apply J.drew; apply J.drew; assumption) | (apply J.drew; apply J.drew; apply J.drew; assumption) | (apply J.drew; apply J.drew; apply J.drew; apply J.drew; assumption) | (apply J.drew; apply J.drew; apply J.drew; apply J.drew; apply J.drew; assumption))) (by omega) (by omega) fun _ => ?_) | (refine wp_st (by (first | assumption | (apply J.drew; assumption) | (apply J.drew; apply J.drew; assumption) | (apply J.drew; apply J.drew; apply J.drew; assumption) | (apply J.drew; apply J.drew; apply J.drew; apply J.drew; assumption) | (apply J.drew; apply J.drew; apply J.drew; apply J.drew; apply J.drew; assumption))) (by omega) (by omega) fun _ _ => ?_) | (refine wp_less fun _ => wp_bind (asB_bool _) ?_)); (first | (refine wp_ix (by (first | assumption | (apply J.drew; assumption) | (apply J.drew; apply J.drew; assumption) | (apply J.drew; apply J.drew; apply J.drew; assumption) | (apply J.drew; apply J.drew; apply J.drew; apply J.drew; assumption) | (apply J.drew; apply J.drew; apply J.drew; apply J.drew; apply J.drew; assumption))) (by omega) (by omega) ?_) | (refine wp_ld (by (first | assumption | (apply J.drew; assumption) | (apply J.drew; apply J.drew; assumption) | (apply J.drew; apply J.drew; apply J.drew; assumption) | (apply J.drew; apply J.drew; apply J.drew; apply J.drew; assumption) | (apply J.drew; apply J.drew; apply J.drew; apply J.drew; apply J.drew; assumption))) (by omega) (by omega) fun _ => ?_) | (refine wp_st (by (first | assumption | (apply J.drew; assumption) | (apply J.drew; apply J.drew; assumption) | (apply J.drew; apply J.drew; apply J.drew; assumption) | (apply J.drew; apply J.drew; apply J.drew; apply J.drew; assumption) | (apply J.drew; apply J.drew; apply J.drew; apply J.drew; apply J.drew; assumption))) (by omega) (by omega) fun _ _ => ?_) | (refine wp_less fun _ => wp_bind (asB_bool _) ?_)); (first | (refine wp_ix (by (first | assumption | (apply J.drew; assumption) | (apply J.drew; apply J.drew; assumption) | (apply J.drew; apply J.drew; apply J.drew; assumption) | (apply J.drew; apply J.drew; apply J.drew; apply J.drew; assumption) | (apply J.drew; apply J.drew; apply J.drew; apply J.drew; apply J.drew; assumption))) (by omega) (by omega) ?_) | (refine wp_ld (by (first | assumption | (apply J.drew; assumption) | (apply J.drew; apply J.drew; assumption) | (apply J.drew; apply J.drew; apply J.drew; assumption) | (apply J.drew; apply J.drew; apply J.drew; apply J.drew; assumption) | (apply J.drew; apply J.drew; apply J.drew; apply J.drew; apply J.drew; assumption))) (by omega) (by omega) fun _ => ?_) | (refine wp_st (by (first | assumption | (apply J.drew; assumption) | (apply J.drew; apply J.drew; assumption) | (apply J.drew; apply J.drew; apply J.drew; assumption) | (apply J.drew; apply J.drew; apply J.drew; apply J.drew; assumption) | (apply J.drew; apply J.drew; apply J.drew; apply J.drew; apply J.drew; assumption))) (by omega) (by omega) fun _ _ => ?_) | (refine wp_less fun _ => wp_bind (asB_bool _) ?_)); (first | (refine wp_ix (by (first | assumption | (apply J.drew; assumption) | (apply J.drew; apply J.drew; assumption) | (apply J.drew; apply J.drew; apply J.drew; assumption) | (apply J.drew; apply J.drew; apply J.drew; apply J.drew; assumption) | (apply J.drew; apply J.drew; apply J.drew; apply J.drew; apply J.drew; assumption))) (by omega) (by omega) ?_) | (refine wp_ld (by (first | assumption | (apply J.drew; assumption) | (apply J.drew; apply J.drew; assumption) | (apply J.drew; apply J.drew; apply J.drew; assumption) | (apply J.drew; apply J.drew; apply J.drew; apply J.drew; assumption) | (apply J.drew; apply J.drew; apply J.drew; apply J.drew; apply J.drew; assumption))) (by omega) (by omega) fun _ => ?_) | (refine wp_st (by (first | assumption | (apply J.drew; assumption) | (apply J.drew; apply J.drew; assumption) | (apply J.drew; apply J.drew; apply J.drew; assumption) | (apply J.drew; apply J.drew; apply J.drew; apply J.drew; assumption) | (apply J.drew; apply J.drew; apply J.drew; apply J.drew; apply J.drew; assumption))) (by omega) (by omega) fun _ _ => ?_) | (refine wp_less fun _ => wp_bind (asB_bool _) ?_)); (first | (refine wp_ix (by (first | assumption | (apply J.drew; assumption) | (apply J.drew; apply J.drew; assumption) | (apply J.drew; apply J.drew; apply J.drew; assumption) | (apply J.drew; apply J.drew; apply J.drew; apply J.drew; assumption) | (apply J.drew; apply J.drew; apply J.drew; apply J.drew; apply J.drew; assumption))) (by omega) (by omega) ?_) | (refine wp_ld (by (first | assumption | (apply J.drew; assumption) | (apply J.drew; apply J.drew; assumption) | (apply J.drew; apply J.drew; apply J.drew; assumption) | (apply J.drew; apply J.drew; apply J.drew; apply J.drew; assumption) | (apply J.drew; apply J.drew; apply J.drew; apply J.drew; apply J.drew; assumption))) (by omega) (by omega) fun _ => ?_) | (refine wp_st (by (first | assumption | (apply J.drew; assumption) | (apply J.drew; apply J.drew; assumption) | (apply J.drew; apply J.drew; apply J.drew; assumption) | (apply J.drew; apply J.drew; apply J.drew; apply J.drew; assumption) | (apply J.drew; apply J.drew; apply J.drew; apply J.drew; apply J.drew; assumption))) (by omega) (by omega) fun _ _ => ?_) | (refine wp_less fun _ => wp_bind (asB_bool _) ?_)); (first | (refine wp_ix (by (first | assumption | (apply J.drew; assumption) | (apply J.drew; apply J.drew; assumption) | (apply J.drew; apply J.drew; apply J.drew; assumption) | (apply J.drew; apply J.drew; apply J.drew; apply J.drew; assumption) | (apply J.drew; apply J.drew; apply J.drew; apply J.drew; apply J.drew; assumption))) (by omega) (by omega) ?_) | (refine wp_ld (by (first | assumption | (apply J.drew; assumption) | (apply J.drew; apply J.drew; assumption) | (apply J.drew; apply J.drew; apply J.drew; assumption) | (apply J.drew; apply J.drew; apply J.drew; apply J.drew; assumption) | (apply J.drew; apply J.drew; apply J.drew; apply J.drew; apply J.drew; assumption))) (by omega) (by omega) fun _ => ?_) | (refine wp_st (by (first | assumption | (apply J.drew; assumption) | (apply J.drew; apply J.drew; assumption) | (apply J.drew; apply J.drew; apply J.drew; assumption) | (apply J.drew; apply J.drew; apply J.drew; apply J.drew; assumption) | (apply J.drew; apply J.drew; apply J.drew; apply J.drew; apply J.drew; assumption))) (by omega) (by omega) fun _ _ => ?_) | (refine wp_less fun _ => wp_bind (asB_bool _) ?_)); (first | (refine wp_ix (by (first | assumption | (apply J.drew; assumption) | (apply J.drew; apply J.drew; assumption) | (apply J.drew; apply J.drew; apply J.drew; assumption) | (apply J.drew; apply J.drew; apply J.drew; apply J.drew; assumption) | (apply J.drew; apply J.drew; apply J.drew; apply J.drew; apply J.drew; assumption))) (by omega) (by omega) ?_) | (refine wp_ld (by (first | assumption | (apply J.drew; assumption) | (apply J.drew; apply J.drew; assumption) | (apply J.drew; apply J.drew; apply J.drew; assumption) | (apply J.drew; apply J.drew; apply J.drew; apply J.drew; assumption) | (apply J.drew; apply J.drew; apply J.drew; apply J.drew; apply J.drew; assumption))) (by omega) (by omega) fun _ => ?_) | (refine wp_st (by (first | assumption | (apply J.drew; assumption) | (apply J.drew; apply J.drew; assumption) | (apply J.drew; apply J.drew; apply J.drew; assumption) | (apply J.drew; apply J.drew; apply J.drew; apply J.drew; assumption) | (apply J.drew; apply J.drew; apply J.drew; apply J.drew; apply J.drew; assumption))) (by omega) (by omega) fun _ _ => ?_) | (refine wp_less fun _ => wp_bind (asB_bool _) ?_)); (first | (refine wp_ix (by (first | assumption | (apply J.drew; assumption) | (apply J.drew; apply J.drew; assumption) | (apply J.drew; apply J.drew; apply J.drew; assumption) | (apply J.drew; apply J.drew; apply J.drew; apply J.drew; assumption) | (apply J.drew; apply J.drew; apply J.drew; apply J.drew; apply J.drew; assumption))) (by omega) (by omega) ?_) | (refine wp_ld (by (first | assumption | (apply J.drew; assumption) | (apply J.drew; apply J.drew; assumption) | (apply J.drew; apply J.drew; apply J.drew; assumption) | (apply J.drew; apply J.drew; apply J.drew; apply J.drew; assumption) | (apply J.drew; apply J.drew; apply J.drew; apply J.drew; apply J.drew; assumption))) (by omega) (by omega) fun _ => ?_) | (refine wp_st (by (first | assumption | (apply J.drew; assumption) | (apply J.drew; apply J.drew; assumption) | (apply J.drew; apply J.drew; apply J.drew; assumption) | (apply J.drew; apply J.drew; apply J.drew; apply J.drew; assumption) | (apply J.drew; apply J.drew; apply J.drew; apply J.drew; apply J.drew; assumption))) (by omega) (by omega) fun _ _ => ?_) | (refine wp_less fun _ => wp_bind (asB_bool _) ?_))
        exact fin _ (by (first | assumption | (apply J.drew; assumption) | (apply J.drew; apply J.drew; assumption) | (apply J.drew; apply J.drew; apply J.drew; assumption) | (apply J.drew; apply J.drew; apply J.drew; apply J.drew; assumption) | (apply J.drew; apply J.drew; apply J.drew; apply J.drew; apply J.drew; assumption))))
    (s := a + (b - a) / 4 * 2 - 1) (w := w2) ⟨by omega, h2, _, b2⟩
  refine ⟨w', g44_call ?_, hJ⟩
  unfold g44
  rw [hw1]
  simp (disch := omega) only [wrap_i64, Int.tdiv_eq_ediv_of_nonneg]
  rw [if_pos (by simp; omega)]
  simp only [s2, obs, asP_pointer, asB_bool, asI_int, asS_string, asSl_slice, asM_map, asTup0, asTup1, asTup2, asTup3, asTup4, asTup5, asTup6, asTup7, asTup8, asTup9, asAgg2, asAgg3, asAgg4, asAgg5, asAgg6, asAgg7, asAgg8, asAgg9, asAgg12, getD0, getD1, getD2, getD3, getD4, getD5, getD6, getD7, getD8, getD9, getD10, getD11, getD12, getD13, getD14, getD15, getD16, getD17, getD18, getD19, Bool.not_true, Bool.not_false, Bool.false_eq_true, Bool.true_eq_false, ↓reduceIte, decide_true, decide_false, Option.isNone_some, Option.isNone_none, Option.isSome_some, Option.isSome_none, beq_self_eq_true, bne_self_eq_false, Bool.and_true, Bool.true_and, Bool.and_false, Bool.false_and, not_true_eq_false, not_false_eq_true]
  have e3' : callF Try.prog 54 #[.int .i64 (b - a)] w2 = some (.int .u64 (m : Int), w2) := by rw [hl]; exact e3
  simp only [e3', obs, asP_pointer, asB_bool, asI_int, asS_string, asSl_slice, asM_map, asTup0, asTup1, asTup2, asTup3, asTup4, asTup5, asTup6, asTup7, asTup8, asTup9, asAgg2, asAgg3, asAgg4, asAgg5, asAgg6, asAgg7, asAgg8, asAgg9, asAgg12, getD0, getD1, getD2, getD3, getD4, getD5, getD6, getD7, getD8, getD9, getD10, getD11, getD12, getD13, getD14, getD15, getD16, getD17, getD18, getD19, Bool.not_true, Bool.not_false, Bool.false_eq_true, Bool.true_eq_false, ↓reduceIte, decide_true, decide_false, Option.isNone_some, Option.isNone_none, Option.isSome_some, Option.isSome_none, beq_self_eq_true, bne_self_eq_false, Bool.and_true, Bool.true_and, Bool.and_false, Bool.false_and, not_true_eq_false, not_false_eq_true]
  rw [g44_l4_x0_of g1, g44_l4_x0]
end
end Go.Proofs.Ytkmidlhnlnolnaa
