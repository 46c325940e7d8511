/-
  TxnSrt: lemmas on what Go functions of this seat come to (for whatever arguments, as each says). No condition but those that stand in each lemma.
-/
import Derived.Test.YtlcojbodcbjkaaaTxnS
import Derived.Sort.AssemblyPlain
namespace Go.Proofs.Ytlcojbodcbjkaaa.SQ
open Go Go.Ev
set_option maxRecDepth 100000
set_option linter.unusedVariables false
set_option linter.unusedSimpArgs false

/-! ## a walk over a row of whole numbers, of which each is known -/
def wp {α : Type} (m : Option α) (Q : α → Prop) : Prop := ∃ r, m = some r ∧ Q r
theorem wp_some {α : Type} {r : α} {Q : α → Prop} (h : Q r) : wp (some r) Q := ⟨r, rfl, h⟩
theorem wp_if {α : Type} {c : Prop} [Decidable c] {a b : Option α} {Q : α → Prop} (h1 : c → wp a Q) (h2 : ¬ c → wp b Q) : wp (if c then a else b) Q := by
  by_cases h : c
  · rw [if_pos h]; exact h1 h
  · rw [if_neg h]; exact h2 h
theorem wp_bind {α β : Type} {m : Option α} {r : α} {f : α → Option β} {Q : β → Prop} (e : m = some r) (h : wp (f r) Q) : wp (m.bind f) Q := by rw [e]; exact h
theorem wp_mono {α : Type} {m : Option α} {P Q : α → Prop} (h : wp m P) (hq : ∀ r, P r → Q r) : wp m Q := by obtain ⟨r, e, h⟩ := h; exact ⟨r, e, hq r h⟩
theorem loop_wp {σ : Type} {b : σ → World → Option (Exit × σ × World)} {I : σ → World → Prop} {Q : Exit → σ → World → Prop} (m : σ → Nat)
    (step : ∀ s w, I s w → wp (b s w) (fun r => r.1 = .normal ∧ I r.2.1 r.2.2 ∧ m r.2.1 < m s ∨ r.1 ≠ .normal ∧ Q r.1 r.2.1 r.2.2)) {s : σ} {w : World} (h : I s w) :
    ∃ e t w', loopS b s w = some (e, t, w') ∧ Q e t w' :=
  loopS_meas m (fun s w hI => by obtain ⟨⟨e, s', w'⟩, h1, h2⟩ := step s w hI; exact ⟨e, s', w', h1, h2⟩) h

abbrev ShI := Option Addr × Nat × Nat
structure J (q : ShI) (g off : Nat) (W w : World) (d : Array Int) : Prop where
  at_ : 0 < q.2.1 → q.1 = some ⟨g, off, none⟩
  own : Own w 3 1 q (d.toList.map (Value.int .i64))
  fr : Fr (blkOf q) W w
  le : q.2.1 ≤ 1000000000000

section
variable {q : ShI} {g off : Nat} {W w : World} {d : Array Int}
theorem J.size (h : J q g off W w d) : d.size = q.2.1 := by have := h.own.len; simpa using this
theorem J.aside (h : J q g off W w d) {w' : World} (f : Fr [] w w') : J q g off W w' d :=
  ⟨h.at_, h.own.fr f (by simp), (h.fr.app f).mono (by intro y hy _; simpa using hy), h.le⟩
theorem J.drew (h : J q g off W w d) : J q g off W w.drew d := h.aside (Fr.drew [] w)
theorem J.refl (h : J q g off W w d) : J q g off w w d := ⟨h.at_, h.own, Fr.refl _ _, h.le⟩
theorem J.trans (h : J q g off W w d) {w' : World} {d' : Array Int} (h' : J q g off w w' d') : J q g off W w' d' := ⟨h'.at_, h'.own, (h.fr.app h'.fr).mono (by intro y hy _; simpa using hy), h.le⟩

theorem J.idx (h : J q g off W w d) {i : Int} (h0 : 0 ≤ i) (h1 : i < (q.2.1 : Int)) : idxA q.1 q.2.1 1 i = some ⟨g, off + i.toNat, none⟩ := by
  rw [h.at_ (by omega)]
  unfold idxA
  rw [if_pos (by omega)]
  simp [addr_add]
theorem J.ld (h : J q g off W w d) {i : Int} (h0 : 0 ≤ i) (h1 : i < (q.2.1 : Int)) : w.cell? ⟨g, off + i.toNat, none⟩ = some (.int .i64 d[i.toNat]!) := by
  have hs := h.size
  have e := h.own.get (h.at_ (by omega)) i.toNat (by simp; omega)
  rw [e, List.getElem_map, Array.getElem_toList, getElem!_pos d i.toNat (by omega)]
theorem J.st (h : J q g off W w d) {i : Int} (h0 : 0 ≤ i) (h1 : i < (q.2.1 : Int)) (v : Int) : ∃ w', st1 w ⟨g, off + i.toNat, none⟩ (.int .i64 v) = some w' ∧ J q g off W w' (d.setIfInBounds i.toNat v) := by
  have hs := h.size
  obtain ⟨e, o', f⟩ := h.own.set (h.at_ (by omega)) (k := i.toNat) (by simp; omega) (u := .int .i64 v) rfl
  refine ⟨_, e, h.at_, ?_, (h.fr.app f).mono (by intro y hy _; simpa using hy), h.le⟩
  rw [Array.toList_setIfInBounds, List.map_set]
  exact o'

theorem wp_ix {β : Type} {f : Addr → Option β} {Q : β → Prop} (h : J q g off W w d) {i : Int} (h0 : 0 ≤ i) (h1 : i < (q.2.1 : Int)) (hf : wp (f ⟨g, off + i.toNat, none⟩) Q) : wp ((idxA q.1 q.2.1 1 i).bind f) Q := wp_bind (h.idx h0 h1) hf
theorem wp_ld {β : Type} {f : Int → Option β} {Q : β → Prop} (h : J q g off W w d) {i : Int} (h0 : 0 ≤ i) (h1 : i < (q.2.1 : Int)) (hf : wp (f d[i.toNat]!) Q) : wp ((w.cell? ⟨g, off + i.toNat, none⟩).bind fun v => (asI .i64 v).bind f) Q :=
  wp_bind (h.ld h0 h1) (wp_bind (asI_int ..) hf)
theorem wp_st {β : Type} {f : World → Option β} {Q : β → Prop} (h : J q g off W w d) {i : Int} (h0 : 0 ≤ i) (h1 : i < (q.2.1 : Int)) {v : Int} (hf : ∀ w', J q g off W w' (d.setIfInBounds i.toNat v) → wp (f w') Q) : wp ((st1 w ⟨g, off + i.toNat, none⟩ (.int .i64 v)).bind f) Q := by
  obtain ⟨w', e, h'⟩ := h.st h0 h1 v
  exact wp_bind e (hf w' h')
end

theorem less77 (a b : Int) (w : World) : callF Try.prog 77 #[.int .i64 a, .int .i64 b] w = some (.bool (Sort.ltInt a b), w) := by
  have e1 : ∀ s : Int, callF Try.prog 88 #[.int .i64 s] w = some (.bool false, w) := fun s => g88_call (by unfold g88; simp)
  refine g77_call (r := (.bool (decide (a < b)), w)) ?_
  unfold g77
  simp only [e1, obs, asP_pointer, asB_bool, asI_int, asS_string, asSl_slice, asM_map, asTup0, asTup1, asTup2, asTup3, asTup4, asTup5, asTup6, asTup7, asTup8, asTup9, asAgg2, asAgg3, asAgg4, asAgg5, asAgg6, asAgg7, asAgg8, asAgg9, asAgg12, getD0, getD1, getD2, getD3, getD4, getD5, getD6, getD7, getD8, getD9, getD10, getD11, getD12, getD13, getD14, getD15, getD16, getD17, getD18, getD19, Bool.not_true, Bool.not_false, Bool.false_eq_true, Bool.true_eq_false, ↓reduceIte, decide_true, decide_false, Option.isNone_some, Option.isNone_none, Option.isSome_some, Option.isSome_none, beq_self_eq_true, bne_self_eq_false, Bool.and_true, Bool.true_and, Bool.and_false, Bool.false_and, not_true_eq_false, not_false_eq_true]
theorem wp_less {β : Type} {a b : Int} {w : World} {f : Value × World → Option β} {Q : β → Prop} (hf : wp (f (.bool (Sort.ltInt a b), w)) Q) : wp ((callF Try.prog 77 #[.int .i64 a, .int .i64 b] w).bind f) Q := wp_bind (less77 a b w) hf


section
variable {q : ShI} {g off : Nat} {W w : World} {d : Array Int}

/-- insertion: the inner loop -/
theorem ins71_in (h : J q g off W w d) {a i : Nat} {b : Int} (h1 : a ≤ i) (h2 : i < q.2.1) :
    ∃ w', g71_l4 q (a : Int) b (i : Int) (i : Int) w = some (.normal, (i : Int) + 1, w') ∧ J q g off W w' (Sort.insInner Sort.ltInt a i d) := by
  have hle := h.le
  obtain ⟨e, t, w', g1, rfl, hJ⟩ := loop_wp (b := g71_l4_b (a : Int) q b (i : Int)) (I := fun s x => ∃ (j : Nat) (d' : Array Int), s = (j : Int) ∧ a ≤ j ∧ j ≤ i ∧ J q g off W x d' ∧ Sort.insInner Sort.ltInt a j d' = Sort.insInner Sort.ltInt a i d)
    (Q := fun e s x => e = .exit 2 ∧ J q g off W x (Sort.insInner Sort.ltInt a i d)) (fun s => (s - (a : Int)).toNat)
    (fun s x ⟨j, d', hs, ha, hi, hx, he⟩ => by
      subst hs
      unfold g71_l4_b
      try simp (disch := omega) only [wrap_i64]
      refine wp_if (fun c => ?_) (fun c => ?_)
      · simp only [decide_eq_true_eq] at c
        obtain ⟨j', rfl⟩ : ∃ j', j = j' + 1 := ⟨j - 1, by omega⟩
        have t1 : (((j' + 1 : Nat) : Int)).toNat = j' + 1 := by omega
        have t2 : (((j' + 1 : Nat) : Int) - 1).toNat = j' := by omega
        (first | (refine wp_ix (by (first | assumption | (apply J.drew; assumption) | (apply J.drew; apply J.drew; assumption) | (apply J.drew; apply J.drew; apply J.drew; assumption) | (apply J.drew; apply J.drew; apply J.drew; apply J.drew; assumption) | (apply J.drew; apply J.drew; apply J.drew; apply J.drew; apply J.drew; assumption))) (by omega) (by omega) ?_) | (refine wp_ld (by (first | assumption | (apply J.drew; assumption) | (apply J.drew; apply J.drew; assumption) | (apply J.drew; apply J.drew; apply J.drew; assumption) | (apply J.drew; apply J.drew; apply J.drew; apply J.drew; assumption) | (apply J.drew; apply J.drew; apply J.drew; apply J.drew; apply J.drew; assumption))) (by omega) (by omega) ?_) | (refine wp_st (by (first | assumption | (apply J.drew; assumption) | (apply J.drew; apply J.drew; assumption) | (apply J.drew; apply J.drew; apply J.drew; assumption) | (apply J.drew; apply J.drew; apply J.drew; apply J.drew; assumption) | (apply J.drew; apply J.drew; apply J.drew; apply J.drew; apply J.drew; assumption))) (by omega) (by omega) fun _ _ => ?_) | (refine wp_less (wp_bind (asB_bool ..) ?_))); (first | (refine wp_ix (by (first | assumption | (apply J.drew; assumption) | (apply J.drew; apply J.drew; assumption) | (apply J.drew; apply J.drew; apply J.drew; assumption) | (apply J.drew; apply J.drew; apply J.drew; apply J.drew; assumption) | (apply J.drew; apply J.drew; apply J.drew; apply J.drew; apply J.drew; assumption))) (by omega) (by omega) ?_) | (refine wp_ld (by (first | assumption | (apply J.drew; assumption) | (apply J.drew; apply J.drew; assumption) | (apply J.drew; apply J.drew; apply J.drew; assumption) | (apply J.drew; apply J.drew; apply J.drew; apply J.drew; assumption) | (apply J.drew; apply J.drew; apply J.drew; apply J.drew; apply J.drew; assumption))) (by omega) (by omega) ?_) | (refine wp_st (by (first | assumption | (apply J.drew; assumption) | (apply J.drew; apply J.drew; assumption) | (apply J.drew; apply J.drew; apply J.drew; assumption) | (apply J.drew; apply J.drew; apply J.drew; apply J.drew; assumption) | (apply J.drew; apply J.drew; apply J.drew; apply J.drew; apply J.drew; assumption))) (by omega) (by omega) fun _ _ => ?_) | (refine wp_less (wp_bind (asB_bool ..) ?_))); (first | (refine wp_ix (by (first | assumption | (apply J.drew; assumption) | (apply J.drew; apply J.drew; assumption) | (apply J.drew; apply J.drew; apply J.drew; assumption) | (apply J.drew; apply J.drew; apply J.drew; apply J.drew; assumption) | (apply J.drew; apply J.drew; apply J.drew; apply J.drew; apply J.drew; assumption))) (by omega) (by omega) ?_) | (refine wp_ld (by (first | assumption | (apply J.drew; assumption) | (apply J.drew; apply J.drew; assumption) | (apply J.drew; apply J.drew; apply J.drew; assumption) | (apply J.drew; apply J.drew; apply J.drew; apply J.drew; assumption) | (apply J.drew; apply J.drew; apply J.drew; apply J.drew; apply J.drew; assumption))) (by omega) (by omega) ?_) | (refine wp_st (by (first | assumption | (apply J.drew; assumption) | (apply J.drew; apply J.drew; assumption) | (apply J.drew; apply J.drew; apply J.drew; assumption) | (apply J.drew; apply J.drew; apply J.drew; apply J.drew; assumption) | (apply J.drew; apply J.drew; apply J.drew; apply J.drew; apply J.drew; assumption))) (by omega) (by omega) fun _ _ => ?_) | (refine wp_less (wp_bind (asB_bool ..) ?_))); (first | (refine wp_ix (by (first | assumption | (apply J.drew; assumption) | (apply J.drew; apply J.drew; assumption) | (apply J.drew; apply J.drew; apply J.drew; assumption) | (apply J.drew; apply J.drew; apply J.drew; apply J.drew; assumption) | (apply J.drew; apply J.drew; apply J.drew; apply J.drew; apply J.drew; assumption))) (by omega) (by omega) ?_) | (refine wp_ld (by (first | assumption | (apply J.drew; assumption) | (apply J.drew; apply J.drew; assumption) | (apply J.drew; apply J.drew; apply J.drew; assumption) | (apply J.drew; apply J.drew; apply J.drew; apply J.drew; assumption) | (apply J.drew; apply J.drew; apply J.drew; apply J.drew; apply J.drew; assumption))) (by omega) (by omega) ?_) | (refine wp_st (by (first | assumption | (apply J.drew; assumption) | (apply J.drew; apply J.drew; assumption) | (apply J.drew; apply J.drew; apply J.drew; assumption) | (apply J.drew; apply J.drew; apply J.drew; apply J.drew; assumption) | (apply J.drew; apply J.drew; apply J.drew; apply J.drew; apply J.drew; assumption))) (by omega) (by omega) fun _ _ => ?_) | (refine wp_less (wp_bind (asB_bool ..) ?_))); (first | (refine wp_ix (by (first | assumption | (apply J.drew; assumption) | (apply J.drew; apply J.drew; assumption) | (apply J.drew; apply J.drew; apply J.drew; assumption) | (apply J.drew; apply J.drew; apply J.drew; apply J.drew; assumption) | (apply J.drew; apply J.drew; apply J.drew; apply J.drew; apply J.drew; assumption))) (by omega) (by omega) ?_) | (refine wp_ld (by (first | assumption | (apply J.drew; assumption) | (apply J.drew; apply J.drew; assumption) | (apply J.drew; apply J.drew; apply J.drew; assumption) | (apply J.drew; apply J.drew; apply J.drew; apply J.drew; assumption) | (apply J.drew; apply J.drew; apply J.drew; apply J.drew; apply J.drew; assumption))) (by omega) (by omega) ?_) | (refine wp_st (by (first | assumption | (apply J.drew; assumption) | (apply J.drew; apply J.drew; assumption) | (apply J.drew; apply J.drew; apply J.drew; assumption) | (apply J.drew; apply J.drew; apply J.drew; apply J.drew; assumption) | (apply J.drew; apply J.drew; apply J.drew; apply J.drew; apply J.drew; assumption))) (by omega) (by omega) fun _ _ => ?_) | (refine wp_less (wp_bind (asB_bool ..) ?_)))
        rw [t1, t2]
        refine wp_if (fun c2 => ?_) (fun c2 => ?_)
        · (first | (refine wp_ix (by (first | assumption | (apply J.drew; assumption) | (apply J.drew; apply J.drew; assumption) | (apply J.drew; apply J.drew; apply J.drew; assumption) | (apply J.drew; apply J.drew; apply J.drew; apply J.drew; assumption) | (apply J.drew; apply J.drew; apply J.drew; apply J.drew; apply J.drew; assumption))) (by omega) (by omega) ?_) | (refine wp_ld (by (first | assumption | (apply J.drew; assumption) | (apply J.drew; apply J.drew; assumption) | (apply J.drew; apply J.drew; apply J.drew; assumption) | (apply J.drew; apply J.drew; apply J.drew; apply J.drew; assumption) | (apply J.drew; apply J.drew; apply J.drew; apply J.drew; apply J.drew; assumption))) (by omega) (by omega) ?_) | (refine wp_st (by (first | assumption | (apply J.drew; assumption) | (apply J.drew; apply J.drew; assumption) | (apply J.drew; apply J.drew; apply J.drew; assumption) | (apply J.drew; apply J.drew; apply J.drew; apply J.drew; assumption) | (apply J.drew; apply J.drew; apply J.drew; apply J.drew; apply J.drew; assumption))) (by omega) (by omega) fun _ _ => ?_) | (refine wp_less (wp_bind (asB_bool ..) ?_))); (first | (refine wp_ix (by (first | assumption | (apply J.drew; assumption) | (apply J.drew; apply J.drew; assumption) | (apply J.drew; apply J.drew; apply J.drew; assumption) | (apply J.drew; apply J.drew; apply J.drew; apply J.drew; assumption) | (apply J.drew; apply J.drew; apply J.drew; apply J.drew; apply J.drew; assumption))) (by omega) (by omega) ?_) | (refine wp_ld (by (first | assumption | (apply J.drew; assumption) | (apply J.drew; apply J.drew; assumption) | (apply J.drew; apply J.drew; apply J.drew; assumption) | (apply J.drew; apply J.drew; apply J.drew; apply J.drew; assumption) | (apply J.drew; apply J.drew; apply J.drew; apply J.drew; apply J.drew; assumption))) (by omega) (by omega) ?_) | (refine wp_st (by (first | assumption | (apply J.drew; assumption) | (apply J.drew; apply J.drew; assumption) | (apply J.drew; apply J.drew; apply J.drew; assumption) | (apply J.drew; apply J.drew; apply J.drew; apply J.drew; assumption) | (apply J.drew; apply J.drew; apply J.drew; apply J.drew; apply J.drew; assumption))) (by omega) (by omega) fun _ _ => ?_) | (refine wp_less (wp_bind (asB_bool ..) ?_))); (first | (refine wp_ix (by (first | assumption | (apply J.drew; assumption) | (apply J.drew; apply J.drew; assumption) | (apply J.drew; apply J.drew; apply J.drew; assumption) | (apply J.drew; apply J.drew; apply J.drew; apply J.drew; assumption) | (apply J.drew; apply J.drew; apply J.drew; apply J.drew; apply J.drew; assumption))) (by omega) (by omega) ?_) | (refine wp_ld (by (first | assumption | (apply J.drew; assumption) | (apply J.drew; apply J.drew; assumption) | (apply J.drew; apply J.drew; apply J.drew; assumption) | (apply J.drew; apply J.drew; apply J.drew; apply J.drew; assumption) | (apply J.drew; apply J.drew; apply J.drew; apply J.drew; apply J.drew; assumption))) (by omega) (by omega) ?_) | (refine wp_st (by (first | assumption | (apply J.drew; assumption) | (apply J.drew; apply J.drew; assumption) | (apply J.drew; apply J.drew; apply J.drew; assumption) | (apply J.drew; apply J.drew; apply J.drew; apply J.drew; assumption) | (apply J.drew; apply J.drew; apply J.drew; apply J.drew; apply J.drew; assumption))) (by omega) (by omega) fun _ _ => ?_) | (refine wp_less (wp_bind (asB_bool ..) ?_))); (first | (refine wp_ix (by (first | assumption | (apply J.drew; assumption) | (apply J.drew; apply J.drew; assumption) | (apply J.drew; apply J.drew; apply J.drew; assumption) | (apply J.drew; apply J.drew; apply J.drew; apply J.drew; assumption) | (apply J.drew; apply J.drew; apply J.drew; apply J.drew; apply J.drew; assumption))) (by omega) (by omega) ?_) | (refine wp_ld (by (first | assumption | (apply J.drew; assumption) | (apply J.drew; apply J.drew; assumption) | (apply J.drew; apply J.drew; apply J.drew; assumption) | (apply J.drew; apply J.drew; apply J.drew; apply J.drew; assumption) | (apply J.drew; apply J.drew; apply J.drew; apply J.drew; apply J.drew; assumption))) (by omega) (by omega) ?_) | (refine wp_st (by (first | assumption | (apply J.drew; assumption) | (apply J.drew; apply J.drew; assumption) | (apply J.drew; apply J.drew; apply J.drew; assumption) | (apply J.drew; apply J.drew; apply J.drew; apply J.drew; assumption) | (apply J.drew; apply J.drew; apply J.drew; apply J.drew; apply J.drew; assumption))) (by omega) (by omega) fun _ _ => ?_) | (refine wp_less (wp_bind (asB_bool ..) ?_))); (first | (refine wp_ix (by (first | assumption | (apply J.drew; assumption) | (apply J.drew; apply J.drew; assumption) | (apply J.drew; apply J.drew; apply J.drew; assumption) | (apply J.drew; apply J.drew; apply J.drew; apply J.drew; assumption) | (apply J.drew; apply J.drew; apply J.drew; apply J.drew; apply J.drew; assumption))) (by omega) (by omega) ?_) | (refine wp_ld (by (first | assumption | (apply J.drew; assumption) | (apply J.drew; apply J.drew; assumption) | (apply J.drew; apply J.drew; apply J.drew; assumption) | (apply J.drew; apply J.drew; apply J.drew; apply J.drew; assumption) | (apply J.drew; apply J.drew; apply J.drew; apply J.drew; apply J.drew; assumption))) (by omega) (by omega) ?_) | (refine wp_st (by (first | assumption | (apply J.drew; assumption) | (apply J.drew; apply J.drew; assumption) | (apply J.drew; apply J.drew; apply J.drew; assumption) | (apply J.drew; apply J.drew; apply J.drew; apply J.drew; assumption) | (apply J.drew; apply J.drew; apply J.drew; apply J.drew; apply J.drew; assumption))) (by omega) (by omega) fun _ _ => ?_) | (refine wp_less (wp_bind (asB_bool ..) ?_))); (first | (refine wp_ix (by (first | assumption | (apply J.drew; assumption) | (apply J.drew; apply J.drew; assumption) | (apply J.drew; apply J.drew; apply J.drew; assumption) | (apply J.drew; apply J.drew; apply J.drew; apply J.drew; assumption) | (apply J.drew; apply J.drew; apply J.drew; apply J.drew; apply J.drew; assumption))) (by omega) (by omega) ?_) | (refine wp_ld (by (first | assumption | (apply J.drew; assumption) | (apply J.drew; apply J.drew; assumption) | (apply J.drew; apply J.drew; apply J.drew; assumption) | (apply J.drew; apply J.drew; apply J.drew; apply J.drew; assumption) | (apply J.drew; apply J.drew; apply J.drew; apply J.drew; apply J.drew; assumption))) (by omega) (by omega) ?_) | (refine wp_st (by (first | assumption | (apply J.drew; assumption) | (apply J.drew; apply J.drew; assumption) | (apply J.drew; apply J.drew; apply J.drew; assumption) | (apply J.drew; apply J.drew; apply J.drew; apply J.drew; assumption) | (apply J.drew; apply J.drew; apply J.drew; apply J.drew; apply J.drew; assumption))) (by omega) (by omega) fun _ _ => ?_) | (refine wp_less (wp_bind (asB_bool ..) ?_))); (first | (refine wp_ix (by (first | assumption | (apply J.drew; assumption) | (apply J.drew; apply J.drew; assumption) | (apply J.drew; apply J.drew; apply J.drew; assumption) | (apply J.drew; apply J.drew; apply J.drew; apply J.drew; assumption) | (apply J.drew; apply J.drew; apply J.drew; apply J.drew; apply J.drew; assumption))) (by omega) (by omega) ?_) | (refine wp_ld (by (first | assumption | (apply J.drew; assumption) | (apply J.drew; apply J.drew; assumption) | (apply J.drew; apply J.drew; apply J.drew; assumption) | (apply J.drew; apply J.drew; apply J.drew; apply J.drew; assumption) | (apply J.drew; apply J.drew; apply J.drew; apply J.drew; apply J.drew; assumption))) (by omega) (by omega) ?_) | (refine wp_st (by (first | assumption | (apply J.drew; assumption) | (apply J.drew; apply J.drew; assumption) | (apply J.drew; apply J.drew; apply J.drew; assumption) | (apply J.drew; apply J.drew; apply J.drew; apply J.drew; assumption) | (apply J.drew; apply J.drew; apply J.drew; apply J.drew; apply J.drew; assumption))) (by omega) (by omega) fun _ _ => ?_) | (refine wp_less (wp_bind (asB_bool ..) ?_))); (first | (refine wp_ix (by (first | assumption | (apply J.drew; assumption) | (apply J.drew; apply J.drew; assumption) | (apply J.drew; apply J.drew; apply J.drew; assumption) | (apply J.drew; apply J.drew; apply J.drew; apply J.drew; assumption) | (apply J.drew; apply J.drew; apply J.drew; apply J.drew; apply J.drew; assumption))) (by omega) (by omega) ?_) | (refine wp_ld (by (first | assumption | (apply J.drew; assumption) | (apply J.drew; apply J.drew; assumption) | (apply J.drew; apply J.drew; apply J.drew; assumption) | (apply J.drew; apply J.drew; apply J.drew; apply J.drew; assumption) | (apply J.drew; apply J.drew; apply J.drew; apply J.drew; apply J.drew; assumption))) (by omega) (by omega) ?_) | (refine wp_st (by (first | assumption | (apply J.drew; assumption) | (apply J.drew; apply J.drew; assumption) | (apply J.drew; apply J.drew; apply J.drew; assumption) | (apply J.drew; apply J.drew; apply J.drew; apply J.drew; assumption) | (apply J.drew; apply J.drew; apply J.drew; apply J.drew; apply J.drew; assumption))) (by omega) (by omega) fun _ _ => ?_) | (refine wp_less (wp_bind (asB_bool ..) ?_)))
          rename_i hw'
          rw [t1, t2] at hw'
          refine wp_some (.inl ⟨rfl, ⟨j', _, by simp only; omega, by omega, by omega, hw', ?_⟩, by simp only; omega⟩)
          rw [← he]
          conv => rhs; unfold Sort.insInner
          rw [if_pos (by simp [c2]; omega)]
          rfl
        · refine wp_some (.inr ⟨by simp, rfl, ?_⟩)
          have : Sort.insInner Sort.ltInt a (j' + 1) d' = d' := by
            unfold Sort.insInner
            rw [if_neg (by simp [c2])]
          rw [← he, this]
          (first | assumption | (apply J.drew; assumption) | (apply J.drew; apply J.drew; assumption) | (apply J.drew; apply J.drew; apply J.drew; assumption) | (apply J.drew; apply J.drew; apply J.drew; apply J.drew; assumption) | (apply J.drew; apply J.drew; apply J.drew; apply J.drew; apply J.drew; assumption))
      · have hja : j = a := by simp only [decide_eq_true_eq] at c; omega
        refine wp_some (.inr ⟨by simp, rfl, ?_⟩)
        have : Sort.insInner Sort.ltInt a j d' = d' := by
          subst hja
          cases j with
          | zero => rfl
          | succ j' => unfold Sort.insInner; rw [if_neg (by simp)]
        rw [← he, this]
        (first | assumption | (apply J.drew; assumption) | (apply J.drew; apply J.drew; assumption) | (apply J.drew; apply J.drew; apply J.drew; assumption) | (apply J.drew; apply J.drew; apply J.drew; apply J.drew; assumption) | (apply J.drew; apply J.drew; apply J.drew; apply J.drew; apply J.drew; assumption)))
    (s := (i : Int)) (w := w) ⟨i, d, rfl, h1, Nat.le_refl _, h, rfl⟩
  refine ⟨w', ?_, hJ⟩
  rw [g71_l4_x2_of g1, g71_l4_x2, wrap_i64 (by omega) (by omega)]

theorem ins71 (h : J q g off W w d) {a b : Nat} (ha : a ≤ q.2.1) (hb : b ≤ q.2.1) :
    ∃ w', callF Try.prog 71 #[.slice q.1 q.2.1 q.2.2, .int .i64 (a : Int), .int .i64 (b : Int)] w = some (.tuple #[], w') ∧ J q g off W w' (Sort.insertionSort Sort.ltInt d a b) := by
  have hle := h.le
  obtain ⟨e, t, w', g1, rfl, hJ⟩ := loop_wp (b := g71_l1_b (b : Int) q (a : Int)) (I := fun s x => ∃ (i : Nat) (d' : Array Int), s = (i : Int) ∧ a + 1 ≤ i ∧ J q g off W x d' ∧ Sort.insOuter Sort.ltInt a b i d' = Sort.insertionSort Sort.ltInt d a b)
    (Q := fun e s x => e = .exit 0 ∧ J q g off W x (Sort.insertionSort Sort.ltInt d a b)) (fun s => ((b : Int) - s).toNat)
    (fun s x ⟨i, d', hs, hi, hx, he⟩ => by
      subst hs
      unfold g71_l1_b
      refine wp_if (fun c => ?_) (fun c => ?_)
      · simp only [decide_eq_true_eq] at c
        obtain ⟨w', e, hw'⟩ := ins71_in hx (a := a) (i := i) (b := (b : Int)) (by omega) (by omega)
        refine ⟨_, e, .inl ⟨rfl, ⟨i + 1, _, by simp only; omega, by omega, hw', ?_⟩, by simp only; omega⟩⟩
        rw [← he]
        conv => rhs; unfold Sort.insOuter
        rw [if_pos (by omega)]
      · simp only [decide_eq_true_eq] at c
        refine wp_some (.inr ⟨by simp, rfl, ?_⟩)
        have : Sort.insOuter Sort.ltInt a b i d' = d' := by unfold Sort.insOuter; rw [if_neg (by omega)]
        rw [← he, this]
        exact hx)
    (s := ((a + 1 : Nat) : Int)) (w := w) ⟨a + 1, d, rfl, Nat.le_refl _, h, rfl⟩
  refine ⟨w', g71_call ?_, hJ⟩
  unfold g71
  have e : ((a : Int) + 1) = ((a + 1 : Nat) : Int) := by omega
  rw [wrap_i64 (by omega) (by omega), e, g71_l1_x0_of g1, g71_l1_x0]

theorem rev75 (h : J q g off W w d) {a b : Nat} (hab : a ≤ b) (hb : b ≤ q.2.1) (h1 : 1 ≤ b) :
    ∃ w', callF Try.prog 75 #[.slice q.1 q.2.1 q.2.2, .int .i64 (a : Int), .int .i64 (b : Int)] w = some (.tuple #[], w') ∧ J q g off W w' (Sort.reverseRange d a b) := by
  have hle := h.le
  obtain ⟨e, t, w1, g1, rfl, hJ⟩ := loop_wp (b := g75_l1_b q) (I := fun s x => ∃ (i j : Nat) (d' : Array Int), s = ((i : Int), (j : Int)) ∧ j < q.2.1 ∧ J q g off W x d' ∧ Sort.reverseLoop i j d' = Sort.reverseRange d a b)
    (Q := fun e s x => e = .exit 0 ∧ J q g off W x (Sort.reverseRange d a b)) (fun s => (s.2 - s.1).toNat)
    (fun s x ⟨i, j, d', hs, hj, hx, he⟩ => by
      subst hs
      unfold g75_l1_b
      refine wp_if (fun c => ?_) (fun c => ?_)
      · simp only [decide_eq_true_eq] at c
        simp (disch := omega) only [wrap_i64]
        (first | (refine wp_ix (by (first | assumption | (apply J.drew; assumption) | (apply J.drew; apply J.drew; assumption) | (apply J.drew; apply J.drew; apply J.drew; assumption) | (apply J.drew; apply J.drew; apply J.drew; apply J.drew; assumption) | (apply J.drew; apply J.drew; apply J.drew; apply J.drew; apply J.drew; assumption))) (by omega) (by omega) ?_) | (refine wp_ld (by (first | assumption | (apply J.drew; assumption) | (apply J.drew; apply J.drew; assumption) | (apply J.drew; apply J.drew; apply J.drew; assumption) | (apply J.drew; apply J.drew; apply J.drew; apply J.drew; assumption) | (apply J.drew; apply J.drew; apply J.drew; apply J.drew; apply J.drew; assumption))) (by omega) (by omega) ?_) | (refine wp_st (by (first | assumption | (apply J.drew; assumption) | (apply J.drew; apply J.drew; assumption) | (apply J.drew; apply J.drew; apply J.drew; assumption) | (apply J.drew; apply J.drew; apply J.drew; apply J.drew; assumption) | (apply J.drew; apply J.drew; apply J.drew; apply J.drew; apply J.drew; assumption))) (by omega) (by omega) fun _ _ => ?_) | (refine wp_less (wp_bind (asB_bool ..) ?_))); (first | (refine wp_ix (by (first | assumption | (apply J.drew; assumption) | (apply J.drew; apply J.drew; assumption) | (apply J.drew; apply J.drew; apply J.drew; assumption) | (apply J.drew; apply J.drew; apply J.drew; apply J.drew; assumption) | (apply J.drew; apply J.drew; apply J.drew; apply J.drew; apply J.drew; assumption))) (by omega) (by omega) ?_) | (refine wp_ld (by (first | assumption | (apply J.drew; assumption) | (apply J.drew; apply J.drew; assumption) | (apply J.drew; apply J.drew; apply J.drew; assumption) | (apply J.drew; apply J.drew; apply J.drew; apply J.drew; assumption) | (apply J.drew; apply J.drew; apply J.drew; apply J.drew; apply J.drew; assumption))) (by omega) (by omega) ?_) | (refine wp_st (by (first | assumption | (apply J.drew; assumption) | (apply J.drew; apply J.drew; assumption) | (apply J.drew; apply J.drew; apply J.drew; assumption) | (apply J.drew; apply J.drew; apply J.drew; apply J.drew; assumption) | (apply J.drew; apply J.drew; apply J.drew; apply J.drew; apply J.drew; assumption))) (by omega) (by omega) fun _ _ => ?_) | (refine wp_less (wp_bind (asB_bool ..) ?_))); (first | (refine wp_ix (by (first | assumption | (apply J.drew; assumption) | (apply J.drew; apply J.drew; assumption) | (apply J.drew; apply J.drew; apply J.drew; assumption) | (apply J.drew; apply J.drew; apply J.drew; apply J.drew; assumption) | (apply J.drew; apply J.drew; apply J.drew; apply J.drew; apply J.drew; assumption))) (by omega) (by omega) ?_) | (refine wp_ld (by (first | assumption | (apply J.drew; assumption) | (apply J.drew; apply J.drew; assumption) | (apply J.drew; apply J.drew; apply J.drew; assumption) | (apply J.drew; apply J.drew; apply J.drew; apply J.drew; assumption) | (apply J.drew; apply J.drew; apply J.drew; apply J.drew; apply J.drew; assumption))) (by omega) (by omega) ?_) | (refine wp_st (by (first | assumption | (apply J.drew; assumption) | (apply J.drew; apply J.drew; assumption) | (apply J.drew; apply J.drew; apply J.drew; assumption) | (apply J.drew; apply J.drew; apply J.drew; apply J.drew; assumption) | (apply J.drew; apply J.drew; apply J.drew; apply J.drew; apply J.drew; assumption))) (by omega) (by omega) fun _ _ => ?_) | (refine wp_less (wp_bind (asB_bool ..) ?_))); (first | (refine wp_ix (by (first | assumption | (apply J.drew; assumption) | (apply J.drew; apply J.drew; assumption) | (apply J.drew; apply J.drew; apply J.drew; assumption) | (apply J.drew; apply J.drew; apply J.drew; apply J.drew; assumption) | (apply J.drew; apply J.drew; apply J.drew; apply J.drew; apply J.drew; assumption))) (by omega) (by omega) ?_) | (refine wp_ld (by (first | assumption | (apply J.drew; assumption) | (apply J.drew; apply J.drew; assumption) | (apply J.drew; apply J.drew; apply J.drew; assumption) | (apply J.drew; apply J.drew; apply J.drew; apply J.drew; assumption) | (apply J.drew; apply J.drew; apply J.drew; apply J.drew; apply J.drew; assumption))) (by omega) (by omega) ?_) | (refine wp_st (by (first | assumption | (apply J.drew; assumption) | (apply J.drew; apply J.drew; assumption) | (apply J.drew; apply J.drew; apply J.drew; assumption) | (apply J.drew; apply J.drew; apply J.drew; apply J.drew; assumption) | (apply J.drew; apply J.drew; apply J.drew; apply J.drew; apply J.drew; assumption))) (by omega) (by omega) fun _ _ => ?_) | (refine wp_less (wp_bind (asB_bool ..) ?_))); (first | (refine wp_ix (by (first | assumption | (apply J.drew; assumption) | (apply J.drew; apply J.drew; assumption) | (apply J.drew; apply J.drew; apply J.drew; assumption) | (apply J.drew; apply J.drew; apply J.drew; apply J.drew; assumption) | (apply J.drew; apply J.drew; apply J.drew; apply J.drew; apply J.drew; assumption))) (by omega) (by omega) ?_) | (refine wp_ld (by (first | assumption | (apply J.drew; assumption) | (apply J.drew; apply J.drew; assumption) | (apply J.drew; apply J.drew; apply J.drew; assumption) | (apply J.drew; apply J.drew; apply J.drew; apply J.drew; assumption) | (apply J.drew; apply J.drew; apply J.drew; apply J.drew; apply J.drew; assumption))) (by omega) (by omega) ?_) | (refine wp_st (by (first | assumption | (apply J.drew; assumption) | (apply J.drew; apply J.drew; assumption) | (apply J.drew; apply J.drew; apply J.drew; assumption) | (apply J.drew; apply J.drew; apply J.drew; apply J.drew; assumption) | (apply J.drew; apply J.drew; apply J.drew; apply J.drew; apply J.drew; assumption))) (by omega) (by omega) fun _ _ => ?_) | (refine wp_less (wp_bind (asB_bool ..) ?_))); (first | (refine wp_ix (by (first | assumption | (apply J.drew; assumption) | (apply J.drew; apply J.drew; assumption) | (apply J.drew; apply J.drew; apply J.drew; assumption) | (apply J.drew; apply J.drew; apply J.drew; apply J.drew; assumption) | (apply J.drew; apply J.drew; apply J.drew; apply J.drew; apply J.drew; assumption))) (by omega) (by omega) ?_) | (refine wp_ld (by (first | assumption | (apply J.drew; assumption) | (apply J.drew; apply J.drew; assumption) | (apply J.drew; apply J.drew; apply J.drew; assumption) | (apply J.drew; apply J.drew; apply J.drew; apply J.drew; assumption) | (apply J.drew; apply J.drew; apply J.drew; apply J.drew; apply J.drew; assumption))) (by omega) (by omega) ?_) | (refine wp_st (by (first | assumption | (apply J.drew; assumption) | (apply J.drew; apply J.drew; assumption) | (apply J.drew; apply J.drew; apply J.drew; assumption) | (apply J.drew; apply J.drew; apply J.drew; apply J.drew; assumption) | (apply J.drew; apply J.drew; apply J.drew; apply J.drew; apply J.drew; assumption))) (by omega) (by omega) fun _ _ => ?_) | (refine wp_less (wp_bind (asB_bool ..) ?_))); (first | (refine wp_ix (by (first | assumption | (apply J.drew; assumption) | (apply J.drew; apply J.drew; assumption) | (apply J.drew; apply J.drew; apply J.drew; assumption) | (apply J.drew; apply J.drew; apply J.drew; apply J.drew; assumption) | (apply J.drew; apply J.drew; apply J.drew; apply J.drew; apply J.drew; assumption))) (by omega) (by omega) ?_) | (refine wp_ld (by (first | assumption | (apply J.drew; assumption) | (apply J.drew; apply J.drew; assumption) | (apply J.drew; apply J.drew; apply J.drew; assumption) | (apply J.drew; apply J.drew; apply J.drew; apply J.drew; assumption) | (apply J.drew; apply J.drew; apply J.drew; apply J.drew; apply J.drew; assumption))) (by omega) (by omega) ?_) | (refine wp_st (by (first | assumption | (apply J.drew; assumption) | (apply J.drew; apply J.drew; assumption) | (apply J.drew; apply J.drew; apply J.drew; assumption) | (apply J.drew; apply J.drew; apply J.drew; apply J.drew; assumption) | (apply J.drew; apply J.drew; apply J.drew; apply J.drew; apply J.drew; assumption))) (by omega) (by omega) fun _ _ => ?_) | (refine wp_less (wp_bind (asB_bool ..) ?_))); (first | (refine wp_ix (by (first | assumption | (apply J.drew; assumption) | (apply J.drew; apply J.drew; assumption) | (apply J.drew; apply J.drew; apply J.drew; assumption) | (apply J.drew; apply J.drew; apply J.drew; apply J.drew; assumption) | (apply J.drew; apply J.drew; apply J.drew; apply J.drew; apply J.drew; assumption))) (by omega) (by omega) ?_) | (refine wp_ld (by (first | assumption | (apply J.drew; assumption) | (apply J.drew; apply J.drew; assumption) | (apply J.drew; apply J.drew; apply J.drew; assumption) | (apply J.drew; apply J.drew; apply J.drew; apply J.drew; assumption) | (apply J.drew; apply J.drew; apply J.drew; apply J.drew; apply J.drew; assumption))) (by omega) (by omega) ?_) | (refine wp_st (by (first | assumption | (apply J.drew; assumption) | (apply J.drew; apply J.drew; assumption) | (apply J.drew; apply J.drew; apply J.drew; assumption) | (apply J.drew; apply J.drew; apply J.drew; apply J.drew; assumption) | (apply J.drew; apply J.drew; apply J.drew; apply J.drew; apply J.drew; assumption))) (by omega) (by omega) fun _ _ => ?_) | (refine wp_less (wp_bind (asB_bool ..) ?_)))
        rename_i hw'
        simp only [Int.toNat_natCast] at hw'
        refine wp_some (.inl ⟨rfl, ⟨i + 1, j - 1, _, by simp only [Prod.mk.injEq]; omega, by omega, hw', ?_⟩, by simp only; omega⟩)
        rw [← he]
        conv => rhs; unfold Sort.reverseLoop
        rw [if_pos (by omega)]
        rfl
      · simp only [decide_eq_true_eq] at c
        refine wp_some (.inr ⟨by simp, rfl, ?_⟩)
        have : Sort.reverseLoop i j d' = d' := by unfold Sort.reverseLoop; rw [if_neg (by omega)]
        rw [← he, this]
        exact hx)
    (s := ((a : Int), ((b - 1 : Nat) : Int))) (w := w) ⟨a, b - 1, d, rfl, by omega, h, rfl⟩
  refine ⟨w1, g75_call ?_, hJ⟩
  unfold g75
  have e : ((b : Int) - 1) = ((b - 1 : Nat) : Int) := by omega
  rw [wrap_i64 (by omega) (by omega), e, g75_l1_x0_of g1, g75_l1_x0]
end
end Go.Proofs.Ytlcojbodcbjkaaa.SQ

namespace Go.Proofs.Ytlcojbodcbjkaaa.SQ
open Go Go.Ev
set_option maxRecDepth 100000
set_option linter.unusedVariables false
set_option linter.unusedSimpArgs false

theorem wadd {a b : Nat} (h : a + b < 4000000000000000000) : IntKind.i64.wrap ((a : Int) + (b : Int)) = ((a + b : Nat) : Int) := by rw [wrap_i64 (by omega) (by omega)]; omega
theorem wadd1 {a : Nat} (h : a + 1 < 4000000000000000000) : IntKind.i64.wrap ((a : Int) + 1) = ((a + 1 : Nat) : Int) := by rw [wrap_i64 (by omega) (by omega)]; omega
theorem wdbl {a : Nat} (h : 2 * a < 4000000000000000000) : IntKind.i64.wrap (2 * (a : Int)) = ((2 * a : Nat) : Int) := by rw [wrap_i64 (by omega) (by omega)]; omega
theorem wsub {a b : Nat} (h : a < 4000000000000000000) (hb : b ≤ a) : IntKind.i64.wrap ((a : Int) - (b : Int)) = ((a - b : Nat) : Int) := by rw [wrap_i64 (by omega) (by omega)]; omega
theorem wsub1 {a : Nat} (h : a < 4000000000000000000) (hb : 1 ≤ a) : IntKind.i64.wrap ((a : Int) - 1) = ((a - 1 : Nat) : Int) := by rw [wrap_i64 (by omega) (by omega)]; omega

section
variable {q : ShI} {g off : Nat} {W w : World} {d : Array Int}
theorem wp_ixn {β : Type} {f : Addr → Option β} {Q : β → Prop} (h : J q g off W w d) {i : Nat} (h1 : i < q.2.1) (hf : wp (f ⟨g, off + i, none⟩) Q) : wp ((idxA q.1 q.2.1 1 (i : Int)).bind f) Q :=
  wp_ix h (by omega) (by omega) (by simpa using hf)
theorem wp_ldn {β : Type} {f : Int → Option β} {Q : β → Prop} (h : J q g off W w d) {i : Nat} (h1 : i < q.2.1) (hf : wp (f d[i]!) Q) : wp ((w.cell? ⟨g, off + i, none⟩).bind fun v => (asI .i64 v).bind f) Q :=
  wp_ld (i := (i : Int)) h (by omega) (by omega) (by simpa using hf)
theorem wp_stn {β : Type} {f : World → Option β} {Q : β → Prop} (h : J q g off W w d) {i : Nat} (h1 : i < q.2.1) {v : Int} (hf : ∀ w', J q g off W w' (d.setIfInBounds i v) → wp (f w') Q) : wp ((st1 w ⟨g, off + i, none⟩ (.int .i64 v)).bind f) Q :=
  wp_st (i := (i : Int)) h (by omega) (by omega) (by simpa using hf)
/-- two cells change places -/
theorem wp_swap {β : Type} {f : World → Option β} {Q : β → Prop} (h : J q g off W w d) {i j : Nat} (hi : i < q.2.1) (hj : j < q.2.1) (hf : ∀ w', J q g off W w' (Sort.swp d i j) → wp (f w') Q) :
    wp ((idxA q.1 q.2.1 1 (j : Int)).bind fun a1 => (World.cell? w a1).bind fun v1 => (asI .i64 v1).bind fun n1 => (idxA q.1 q.2.1 1 (i : Int)).bind fun a2 => (World.cell? w a2).bind fun v2 => (asI .i64 v2).bind fun n2 =>
      (idxA q.1 q.2.1 1 (i : Int)).bind fun a3 => (st1 w a3 (.int .i64 n1)).bind fun w3 => (idxA q.1 q.2.1 1 (j : Int)).bind fun a4 => (st1 w3 a4 (.int .i64 n2)).bind f) Q := by
  refine wp_ixn h hj (wp_ldn h hj (wp_ixn h hi (wp_ldn h hi (wp_ixn h hi (wp_stn h hi fun w1 h1 => wp_ixn h1 hj (wp_stn h1 hj fun w2 h2 => hf w2 ?_))))))
  exact h2
/-- one is less than another -/
theorem wp_lt {β : Type} {f : Value × World → Option β} {Q : β → Prop} (h : J q g off W w d) {i j : Nat} (hi : i < q.2.1) (hj : j < q.2.1) (hf : wp (f (.bool (Sort.ltInt d[i]! d[j]!), w)) Q) :
    wp ((idxA q.1 q.2.1 1 (i : Int)).bind fun a1 => (World.cell? w a1).bind fun v1 => (asI .i64 v1).bind fun n1 => (idxA q.1 q.2.1 1 (j : Int)).bind fun a2 => (World.cell? w a2).bind fun v2 => (asI .i64 v2).bind fun n2 =>
      (callF Try.prog 77 #[.int .i64 n1, .int .i64 n2] w).bind f) Q :=
  wp_ixn h hi (wp_ldn h hi (wp_ixn h hj (wp_ldn h hj (wp_less hf))))
end

section
variable {q : ShI} {g off : Nat} {W w : World} {d : Array Int}

theorem sift83 (h : J q g off W w d) {lo hi first : Nat} (hf : first + hi ≤ q.2.1) (hlo : lo ≤ q.2.1) :
    ∃ w', callF Try.prog 83 #[.slice q.1 q.2.1 q.2.2, .int .i64 (lo : Int), .int .i64 (hi : Int), .int .i64 (first : Int)] w = some (.tuple #[], w') ∧ J q g off W w' (Sort.siftDown Sort.ltInt hi first lo d) := by
  have hle := h.le
  obtain ⟨e, t, w1, g1, he, hJ⟩ := loop_wp (b := g83_l1_b (hi : Int) q (first : Int)) (I := fun s x => ∃ (i : Nat) (d' : Array Int), s = (i : Int) ∧ i < 4000000000000 ∧ J q g off W x d' ∧ Sort.siftDown Sort.ltInt hi first i d' = Sort.siftDown Sort.ltInt hi first lo d)
    (Q := fun e s x => (e = .exit 0 ∨ e = .ret) ∧ J q g off W x (Sort.siftDown Sort.ltInt hi first lo d)) (fun s => ((hi : Int) - s).toNat)
    (fun s x ⟨i, d', hs, hi0, hx, hr⟩ => by
      subst hs
      unfold g83_l1_b
      (simp (disch := omega) only [wadd, wadd1, wdbl, wsub, wsub1] at *)
      have X : ∀ y, J q g off W y d' → Sort.siftDown Sort.ltInt hi first i d' = d' → ∀ e : Exit, (e = .exit 0 ∨ e = .ret) → wp (some (e, (i : Int), y)) (fun r : Exit × Int × World => r.1 = .normal ∧ (∃ (i : Nat) (d' : Array Int), r.2.1 = (i : Int) ∧ i < 4000000000000 ∧ J q g off W r.2.2 d' ∧ Sort.siftDown Sort.ltInt hi first i d' = Sort.siftDown Sort.ltInt hi first lo d) ∧ ((hi : Int) - r.2.1).toNat < ((hi : Int) - (i : Int)).toNat ∨ r.1 ≠ .normal ∧ (r.1 = .exit 0 ∨ r.1 = .ret) ∧ J q g off W r.2.2 (Sort.siftDown Sort.ltInt hi first lo d)) := by
        intro y hy h1 e he
        refine wp_some (.inr ⟨by rcases he with rfl | rfl <;> simp, he, ?_⟩)
        rw [← hr, h1]
        exact hy
      have N : ∀ (c : Nat), i < c → c < hi → ∀ y, J q g off W y (Sort.swp d' (first + i) (first + c)) → Sort.siftDown Sort.ltInt hi first i d' = Sort.siftDown Sort.ltInt hi first c (Sort.swp d' (first + i) (first + c)) → wp (some (Exit.normal, (c : Int), y)) (fun r : Exit × Int × World => r.1 = .normal ∧ (∃ (i : Nat) (d' : Array Int), r.2.1 = (i : Int) ∧ i < 4000000000000 ∧ J q g off W r.2.2 d' ∧ Sort.siftDown Sort.ltInt hi first i d' = Sort.siftDown Sort.ltInt hi first lo d) ∧ ((hi : Int) - r.2.1).toNat < ((hi : Int) - (i : Int)).toNat ∨ r.1 ≠ .normal ∧ (r.1 = .exit 0 ∨ r.1 = .ret) ∧ J q g off W r.2.2 (Sort.siftDown Sort.ltInt hi first lo d)) := by
        intro c hc hc2 y hy h1
        exact wp_some (.inl ⟨rfl, ⟨c, _, rfl, by omega, hy, by rw [← hr, h1]⟩, by simp only; omega⟩)
      refine wp_if (fun c => ?_) (fun c => ?_)
      · simp only [decide_eq_true_eq] at c
        exact X _ hx (by unfold Sort.siftDown; rw [dif_pos (by omega)]) _ (.inl rfl)
      simp only [decide_eq_true_eq] at c
      skip
      refine wp_if (fun c2 => ?_) (fun c2 => ?_)
      · simp only [decide_eq_true_eq] at c2
        (refine wp_lt (by (first | assumption | (apply J.drew; assumption) | (apply J.drew; apply J.drew; assumption) | (apply J.drew; apply J.drew; apply J.drew; assumption) | (apply J.drew; apply J.drew; apply J.drew; apply J.drew; assumption) | (apply J.drew; apply J.drew; apply J.drew; apply J.drew; apply J.drew; assumption))) (by omega) (by omega) (wp_bind (asB_bool ..) ?_))
        refine wp_if (fun c3 => ?_) (fun c3 => ?_)
        · (refine wp_lt (by (first | assumption | (apply J.drew; assumption) | (apply J.drew; apply J.drew; assumption) | (apply J.drew; apply J.drew; apply J.drew; assumption) | (apply J.drew; apply J.drew; apply J.drew; apply J.drew; assumption) | (apply J.drew; apply J.drew; apply J.drew; apply J.drew; apply J.drew; assumption))) (by omega) (by omega) (wp_bind (asB_bool ..) ?_))
          refine wp_if (fun c4 => ?_) (fun c4 => ?_)
          · refine X _ (by (first | assumption | (apply J.drew; assumption) | (apply J.drew; apply J.drew; assumption) | (apply J.drew; apply J.drew; apply J.drew; assumption) | (apply J.drew; apply J.drew; apply J.drew; apply J.drew; assumption) | (apply J.drew; apply J.drew; apply J.drew; apply J.drew; apply J.drew; assumption))) ?_ _ (.inr rfl)
            unfold Sort.siftDown
            rw [dif_neg (by omega), if_pos (by simp [c3]; omega), if_pos c4]
          · (refine wp_swap (W := _) (by (first | assumption | (apply J.drew; assumption) | (apply J.drew; apply J.drew; assumption) | (apply J.drew; apply J.drew; apply J.drew; assumption) | (apply J.drew; apply J.drew; apply J.drew; apply J.drew; assumption) | (apply J.drew; apply J.drew; apply J.drew; apply J.drew; apply J.drew; assumption))) (by omega) (by omega) fun _ _ => ?_)
            refine N (2 * i + 1 + 1) (by omega) (by omega) _ (by (first | assumption | (apply J.drew; assumption) | (apply J.drew; apply J.drew; assumption) | (apply J.drew; apply J.drew; apply J.drew; assumption) | (apply J.drew; apply J.drew; apply J.drew; apply J.drew; assumption) | (apply J.drew; apply J.drew; apply J.drew; apply J.drew; apply J.drew; assumption))) ?_
            conv => lhs; unfold Sort.siftDown
            rw [dif_neg (by omega), if_pos (by simp [c3]; omega), if_neg c4, dif_pos (by omega)]
        · (refine wp_lt (by (first | assumption | (apply J.drew; assumption) | (apply J.drew; apply J.drew; assumption) | (apply J.drew; apply J.drew; apply J.drew; assumption) | (apply J.drew; apply J.drew; apply J.drew; apply J.drew; assumption) | (apply J.drew; apply J.drew; apply J.drew; apply J.drew; apply J.drew; assumption))) (by omega) (by omega) (wp_bind (asB_bool ..) ?_))
          refine wp_if (fun c4 => ?_) (fun c4 => ?_)
          · refine X _ (by (first | assumption | (apply J.drew; assumption) | (apply J.drew; apply J.drew; assumption) | (apply J.drew; apply J.drew; apply J.drew; assumption) | (apply J.drew; apply J.drew; apply J.drew; apply J.drew; assumption) | (apply J.drew; apply J.drew; apply J.drew; apply J.drew; apply J.drew; assumption))) ?_ _ (.inr rfl)
            unfold Sort.siftDown
            rw [dif_neg (by omega), if_neg (by simp [c3]), if_pos c4]
          · (refine wp_swap (W := _) (by (first | assumption | (apply J.drew; assumption) | (apply J.drew; apply J.drew; assumption) | (apply J.drew; apply J.drew; apply J.drew; assumption) | (apply J.drew; apply J.drew; apply J.drew; apply J.drew; assumption) | (apply J.drew; apply J.drew; apply J.drew; apply J.drew; apply J.drew; assumption))) (by omega) (by omega) fun _ _ => ?_)
            refine N (2 * i + 1) (by omega) (by omega) _ (by (first | assumption | (apply J.drew; assumption) | (apply J.drew; apply J.drew; assumption) | (apply J.drew; apply J.drew; apply J.drew; assumption) | (apply J.drew; apply J.drew; apply J.drew; apply J.drew; assumption) | (apply J.drew; apply J.drew; apply J.drew; apply J.drew; apply J.drew; assumption))) ?_
            conv => lhs; unfold Sort.siftDown
            rw [dif_neg (by omega), if_neg (by simp [c3]), if_neg c4]
      · simp only [decide_eq_true_eq] at c2
        (refine wp_lt (by (first | assumption | (apply J.drew; assumption) | (apply J.drew; apply J.drew; assumption) | (apply J.drew; apply J.drew; apply J.drew; assumption) | (apply J.drew; apply J.drew; apply J.drew; apply J.drew; assumption) | (apply J.drew; apply J.drew; apply J.drew; apply J.drew; apply J.drew; assumption))) (by omega) (by omega) (wp_bind (asB_bool ..) ?_))
        refine wp_if (fun c4 => ?_) (fun c4 => ?_)
        · refine X _ (by (first | assumption | (apply J.drew; assumption) | (apply J.drew; apply J.drew; assumption) | (apply J.drew; apply J.drew; apply J.drew; assumption) | (apply J.drew; apply J.drew; apply J.drew; apply J.drew; assumption) | (apply J.drew; apply J.drew; apply J.drew; apply J.drew; apply J.drew; assumption))) ?_ _ (.inr rfl)
          unfold Sort.siftDown
          rw [dif_neg (by omega), if_neg (by simp; omega), if_pos c4]
        · (refine wp_swap (W := _) (by (first | assumption | (apply J.drew; assumption) | (apply J.drew; apply J.drew; assumption) | (apply J.drew; apply J.drew; apply J.drew; assumption) | (apply J.drew; apply J.drew; apply J.drew; apply J.drew; assumption) | (apply J.drew; apply J.drew; apply J.drew; apply J.drew; apply J.drew; assumption))) (by omega) (by omega) fun _ _ => ?_)
          refine N (2 * i + 1) (by omega) (by omega) _ (by (first | assumption | (apply J.drew; assumption) | (apply J.drew; apply J.drew; assumption) | (apply J.drew; apply J.drew; apply J.drew; assumption) | (apply J.drew; apply J.drew; apply J.drew; apply J.drew; assumption) | (apply J.drew; apply J.drew; apply J.drew; apply J.drew; apply J.drew; assumption))) ?_
          conv => lhs; unfold Sort.siftDown
          rw [dif_neg (by omega), if_neg (by simp; omega), if_neg c4])
    (s := (lo : Int)) (w := w) ⟨lo, d, rfl, by omega, h, rfl⟩
  rcases he with rfl | rfl
  · refine ⟨w1, g83_call ?_, hJ⟩
    unfold g83
    rw [g83_l1_x0_of g1, g83_l1_x0]
  · refine ⟨w1, g83_call ?_, hJ⟩
    unfold g83
    rw [g83_l1_ret_of g1, g83_l1_ret]

theorem wp_sift {β : Type} {f : Value × World → Option β} {Q : β → Prop} (h : J q g off W w d) {lo hi first : Nat} (hf : first + hi ≤ q.2.1) (hlo : lo ≤ q.2.1) (hk : ∀ w', J q g off W w' (Sort.siftDown Sort.ltInt hi first lo d) → wp (f (.tuple #[], w')) Q) :
    wp ((callF Try.prog 83 #[.slice q.1 q.2.1 q.2.2, .int .i64 (lo : Int), .int .i64 (hi : Int), .int .i64 (first : Int)] w).bind f) Q := by
  obtain ⟨w', e, h'⟩ := sift83 h hf hlo
  exact wp_bind e (hk _ h')

theorem heap72 (h : J q g off W w d) {a b : Nat} (hab : a < b) (hb : b ≤ q.2.1) :
    ∃ w', callF Try.prog 72 #[.slice q.1 q.2.1 q.2.2, .int .i64 (a : Int), .int .i64 (b : Int)] w = some (.tuple #[], w') ∧ J q g off W w' (Sort.heapSort Sort.ltInt d a b) := by
  have hle := h.le
  obtain ⟨e, t, w1, g1, rfl, hJ⟩ := loop_wp (b := g72_l1_b q (b : Int) (a : Int)) (I := fun s x => ∃ (k : Nat) (d' : Array Int), s = (k : Int) - 1 ∧ k ≤ q.2.1 ∧ J q g off W x d' ∧ Sort.heapBuild Sort.ltInt (b - a) a k d' = Sort.heapBuild Sort.ltInt (b - a) a ((b - a - 1) / 2 + 1) d)
    (Q := fun e s x => e = .exit 0 ∧ J q g off W x (Sort.heapBuild Sort.ltInt (b - a) a ((b - a - 1) / 2 + 1) d)) (fun s => (s + 1).toNat)
    (fun s x ⟨k, d', hs, hk, hx, hr⟩ => by
      subst hs
      unfold g72_l1_b
      refine wp_if (fun c => ?_) (fun c => ?_)
      · simp only [decide_eq_true_eq] at c
        obtain ⟨k, rfl⟩ : ∃ k', k = k' + 1 := ⟨k - 1, by omega⟩
        have e : (((k + 1 : Nat) : Int) - 1) = (k : Int) := by omega
        rw [e]
        (simp (disch := omega) only [wadd, wadd1, wdbl, wsub, wsub1] at *)
        refine wp_sift hx (by omega) (by omega) fun w' hw' => wp_bind asTup0 (wp_some (.inl ⟨rfl, ⟨k, _, wrap_i64 (by omega) (by omega), by omega, hw', hr⟩, ?_⟩))
        simp only
        rw [wrap_i64 (by omega) (by omega)]
        omega
      · simp only [decide_eq_true_eq] at c
        have e : k = 0 := by omega
        subst e
        refine wp_some (.inr ⟨by simp, rfl, ?_⟩)
        rw [← hr]
        exact hx)
    (s := (((b - a - 1) / 2 : Nat) : Int)) (w := w) ⟨(b - a - 1) / 2 + 1, d, by omega, by omega, h, rfl⟩
  obtain ⟨e2, t2, w2, g2, rfl, hJ2⟩ := loop_wp (b := g72_l10_b q (a : Int)) (I := fun s x => ∃ (k : Nat) (d' : Array Int), s = (k : Int) - 1 ∧ k ≤ b - a ∧ J q g off W x d' ∧ Sort.heapPop Sort.ltInt a k d' = Sort.heapSort Sort.ltInt d a b)
    (Q := fun e s x => e = .exit 2 ∧ J q g off W x (Sort.heapSort Sort.ltInt d a b)) (fun s => (s + 1).toNat)
    (fun s x ⟨k, d', hs, hk, hx, hr⟩ => by
      subst hs
      unfold g72_l10_b
      refine wp_if (fun c => ?_) (fun c => ?_)
      · simp only [decide_eq_true_eq] at c
        obtain ⟨k, rfl⟩ : ∃ k', k = k' + 1 := ⟨k - 1, by omega⟩
        have e : (((k + 1 : Nat) : Int) - 1) = (k : Int) := by omega
        rw [e]
        (simp (disch := omega) only [wadd, wadd1, wdbl, wsub, wsub1] at *)
        (refine wp_swap (W := _) (by (first | assumption | (apply J.drew; assumption) | (apply J.drew; apply J.drew; assumption) | (apply J.drew; apply J.drew; apply J.drew; assumption) | (apply J.drew; apply J.drew; apply J.drew; apply J.drew; assumption) | (apply J.drew; apply J.drew; apply J.drew; apply J.drew; apply J.drew; assumption))) (by omega) (by omega) fun _ _ => ?_)
        rename_i hw'
        refine wp_sift (lo := 0) hw' (by omega) (by omega) fun w' hw' => wp_bind asTup0 (wp_some (.inl ⟨rfl, ⟨k, _, wrap_i64 (by omega) (by omega), by omega, hw', hr⟩, ?_⟩))
        simp only
        rw [wrap_i64 (by omega) (by omega)]
        omega
      · simp only [decide_eq_true_eq] at c
        have e : k = 0 := by omega
        subst e
        refine wp_some (.inr ⟨by simp, rfl, ?_⟩)
        rw [← hr]
        exact hx)
    (s := ((b - a - 1 : Nat) : Int)) (w := w1) ⟨b - a, _, by omega, by omega, hJ, rfl⟩
  refine ⟨w2, g72_call ?_, hJ2⟩
  unfold g72
  (simp (disch := omega) only [wadd, wadd1, wdbl, wsub, wsub1] at *)
  have e : IntKind.i64.wrap (Int.tdiv ((b - a - 1 : Nat) : Int) 2) = (((b - a - 1) / 2 : Nat) : Int) := by
    rw [Int.tdiv_eq_ediv_of_nonneg (by omega), wrap_i64 (by omega) (by omega)]; omega
  rw [e, g72_l1_x0_of g1, g72_l1_x0]
  (simp (disch := omega) only [wadd, wadd1, wdbl, wsub, wsub1] at *)
  rw [g72_l10_x2_of g2, g72_l10_x2]
end
end Go.Proofs.Ytlcojbodcbjkaaa.SQ

namespace Go.Proofs.Ytlcojbodcbjkaaa.SQ
open Go Go.Ev
set_option maxRecDepth 100000
set_option linter.unusedVariables false
set_option linter.unusedSimpArgs false

section
variable {q : ShI} {g off : Nat} {W w : World} {d : Array Int}

/-- a scan upwards -/
theorem scan_up {b : Int → World → Option (Exit × Int × World)} {E : Exit} (hE : E ≠ .normal) {p : Int → Bool} {j : Nat} {i0 : Nat}
    (hb : ∀ (i : Nat) x, i0 ≤ i → i ≤ i0 ∨ i ≤ j + 1 → J q g off W x d → wp (b (i : Int) x) (fun r => J q g off W r.2.2 d ∧ (r.1, r.2.1) = if i ≤ j ∧ p d[i]! = true then (Exit.normal, ((i + 1 : Nat) : Int)) else (E, (i : Int))))
    (h : J q g off W w d) : ∃ w', loopS b (i0 : Int) w = some (E, ((Sort.scanUp p d j i0 : Nat) : Int), w') ∧ J q g off W w' d := by
  obtain ⟨e, t, w1, g1, ⟨rfl, rfl⟩, hJ⟩ := loop_wp (b := b) (I := fun s x => ∃ i : Nat, s = (i : Int) ∧ i0 ≤ i ∧ (i ≤ i0 ∨ i ≤ j + 1) ∧ J q g off W x d ∧ Sort.scanUp p d j i = Sort.scanUp p d j i0)
    (Q := fun e s x => (e = E ∧ s = ((Sort.scanUp p d j i0 : Nat) : Int)) ∧ J q g off W x d) (fun s => ((j : Int) + 1 - s).toNat)
    (fun s x ⟨i, hs, h1, h2, hx, hr⟩ => by
      subst hs
      refine wp_mono (hb i x h1 h2 hx) ?_
      rintro ⟨e, s, y⟩ ⟨hy, he⟩
      by_cases c : i ≤ j ∧ p d[i]! = true
      · rw [if_pos c] at he
        simp only [Prod.mk.injEq] at he
        obtain ⟨rfl, rfl⟩ := he
        refine .inl ⟨rfl, ⟨i + 1, rfl, by omega, by omega, hy, ?_⟩, by simp only; omega⟩
        rw [← hr]
        conv => rhs; rw [Sort.scanUp]
        rw [if_pos (by simp [c.1, c.2])]
      · rw [if_neg c] at he
        simp only [Prod.mk.injEq] at he
        obtain ⟨rfl, rfl⟩ := he
        refine .inr ⟨hE, ⟨rfl, ?_⟩, hy⟩
        rw [← hr, Sort.scanUp, if_neg (by simpa using c)])
    (s := (i0 : Int)) (w := w) ⟨i0, rfl, Nat.le_refl _, .inl (Nat.le_refl _), h, rfl⟩
  exact ⟨w1, g1, hJ⟩
/-- a scan downwards -/
theorem scan_down {b : Int → World → Option (Exit × Int × World)} {E : Exit} (hE : E ≠ .normal) {p : Int → Bool} {i : Nat} (hi : 1 ≤ i) {j0 : Nat}
    (hb : ∀ (j : Nat) x, j ≤ j0 → J q g off W x d → wp (b (j : Int) x) (fun r => J q g off W r.2.2 d ∧ (r.1, r.2.1) = if i ≤ j ∧ p d[j]! = true then (Exit.normal, ((j - 1 : Nat) : Int)) else (E, (j : Int))))
    (h : J q g off W w d) : ∃ w', loopS b (j0 : Int) w = some (E, ((Sort.scanDown p d i j0 : Nat) : Int), w') ∧ J q g off W w' d := by
  obtain ⟨e, t, w1, g1, ⟨rfl, rfl⟩, hJ⟩ := loop_wp (b := b) (I := fun s x => ∃ j : Nat, s = (j : Int) ∧ j ≤ j0 ∧ J q g off W x d ∧ Sort.scanDown p d i j = Sort.scanDown p d i j0)
    (Q := fun e s x => (e = E ∧ s = ((Sort.scanDown p d i j0 : Nat) : Int)) ∧ J q g off W x d) (fun s => s.toNat)
    (fun s x ⟨j, hs, h1, hx, hr⟩ => by
      subst hs
      refine wp_mono (hb j x h1 hx) ?_
      rintro ⟨e, s, y⟩ ⟨hy, he⟩
      by_cases c : i ≤ j ∧ p d[j]! = true
      · rw [if_pos c] at he
        simp only [Prod.mk.injEq] at he
        obtain ⟨rfl, rfl⟩ := he
        obtain ⟨j, rfl⟩ : ∃ j', j = j' + 1 := ⟨j - 1, by omega⟩
        refine .inl ⟨rfl, ⟨j, by simp only; omega, by omega, hy, ?_⟩, by simp only; omega⟩
        rw [← hr]
        conv => rhs; rw [Sort.scanDown]
        rw [if_pos (by simp [c.1, c.2])]
      · rw [if_neg c] at he
        simp only [Prod.mk.injEq] at he
        obtain ⟨rfl, rfl⟩ := he
        refine .inr ⟨hE, ⟨rfl, ?_⟩, hy⟩
        rw [← hr]
        cases j with
        | zero => rfl
        | succ j => rw [Sort.scanDown, if_neg (by simpa using c)])
    (s := (j0 : Int)) (w := w) ⟨j0, rfl, Nat.le_refl _, h, rfl⟩
  exact ⟨w1, g1, hJ⟩

theorem partEq78 (h : J q g off W w d) {a b p : Nat} (hab : a < b) (hb : b ≤ q.2.1) (hp : a ≤ p ∧ p < b) :
    ∃ (w' : World), callF Try.prog 78 #[.slice q.1 q.2.1 q.2.2, .int .i64 (a : Int), .int .i64 (b : Int), .int .i64 (p : Int)] w = some (.int .i64 ((Sort.partitionEqual Sort.ltInt d a b p).1 : Int), w') ∧ J q g off W w' (Sort.partitionEqual Sort.ltInt d a b p).2 := by
  have hle := h.le
  have H : wp (g78 q (a : Int) (b : Int) (p : Int) w) (fun r => r.1 = .int .i64 ((Sort.partitionEqual Sort.ltInt d a b p).1 : Int) ∧ J q g off W r.2 (Sort.partitionEqual Sort.ltInt d a b p).2) := by
    unfold g78
    (simp (disch := omega) only [wadd, wadd1, wdbl, wsub, wsub1] at *)
    (refine wp_swap (W := _) (by (first | assumption | (apply J.drew; assumption) | (apply J.drew; apply J.drew; assumption) | (apply J.drew; apply J.drew; apply J.drew; assumption) | (apply J.drew; apply J.drew; apply J.drew; apply J.drew; assumption) | (apply J.drew; apply J.drew; apply J.drew; apply J.drew; apply J.drew; assumption))) (by omega) (by omega) fun _ _ => ?_)
    rename_i y2 hy2
    obtain ⟨e, t, w1, g1, ⟨rfl, ht⟩, hJ⟩ := loop_wp (b := g78_l11_b q (a : Int)) (I := fun s x => ∃ (i j : Nat) (d' : Array Int), s = ((i : Int), (j : Int)) ∧ (a < i ∧ i ≤ j + 2 ∧ j < b) ∧ J q g off W x d' ∧ Sort.partEqLoop Sort.ltInt a i j d' = Sort.partitionEqual Sort.ltInt d a b p)
      (Q := fun e s x => (e = .exit 0 ∧ s.1 = ((Sort.partitionEqual Sort.ltInt d a b p).1 : Int)) ∧ J q g off W x (Sort.partitionEqual Sort.ltInt d a b p).2) (fun s => (s.2 - s.1 + 2).toNat)
      (fun s x ⟨i, j, d', hs, hij, hx, hr⟩ => by
        subst hs
        unfold g78_l11_b
        obtain ⟨x1, k1, h1⟩ := scan_up (b := g78_l14_b ((i : Int), (j : Int)) q (a : Int)) (E := .exit 2) (by simp) (p := fun x => !Sort.ltInt d'[a]! x) (j := j) (i0 := i) (fun i' y c1 c2 hy => by
          unfold g78_l14_b
          refine wp_if (fun c => ?_) (fun c => ?_)
          · simp only [decide_eq_true_eq] at c
            (refine wp_lt (by (first | assumption | (apply J.drew; assumption) | (apply J.drew; apply J.drew; assumption) | (apply J.drew; apply J.drew; apply J.drew; assumption) | (apply J.drew; apply J.drew; apply J.drew; apply J.drew; assumption) | (apply J.drew; apply J.drew; apply J.drew; apply J.drew; apply J.drew; assumption))) (by omega) (by omega) (wp_bind (asB_bool ..) ?_))
            refine wp_if (fun c2 => ?_) (fun c2 => ?_)
            · (simp (disch := omega) only [wadd, wadd1, wdbl, wsub, wsub1] at *)
              refine wp_some ⟨by (first | assumption | (apply J.drew; assumption) | (apply J.drew; apply J.drew; assumption) | (apply J.drew; apply J.drew; apply J.drew; assumption) | (apply J.drew; apply J.drew; apply J.drew; apply J.drew; assumption) | (apply J.drew; apply J.drew; apply J.drew; apply J.drew; apply J.drew; assumption)), ?_⟩
              rw [if_pos ⟨by omega, c2⟩]
            · refine wp_some ⟨by (first | assumption | (apply J.drew; assumption) | (apply J.drew; apply J.drew; assumption) | (apply J.drew; apply J.drew; apply J.drew; assumption) | (apply J.drew; apply J.drew; apply J.drew; apply J.drew; assumption) | (apply J.drew; apply J.drew; apply J.drew; apply J.drew; apply J.drew; assumption)), ?_⟩
              rw [if_neg (fun c => c2 c.2)]
          · simp only [decide_eq_true_eq] at c
            refine wp_some ⟨by (first | assumption | (apply J.drew; assumption) | (apply J.drew; apply J.drew; assumption) | (apply J.drew; apply J.drew; apply J.drew; assumption) | (apply J.drew; apply J.drew; apply J.drew; apply J.drew; assumption) | (apply J.drew; apply J.drew; apply J.drew; apply J.drew; apply J.drew; assumption)), ?_⟩
            rw [if_neg (by omega)]) hx
        show wp (g78_l14 q (a : Int) ((i : Int), (j : Int)) (i : Int) x) _
        rw [g78_l14_x2_of k1]
        unfold g78_l14_x2
        have S1 := Sort.scanUp_spec (fun x => !Sort.ltInt d'[a]! x) d' j _ i rfl
        obtain ⟨i2, hi2⟩ : ∃ i2, Sort.scanUp (fun x => !Sort.ltInt d'[a]! x) d' j i = i2 := ⟨_, rfl⟩
        rw [hi2] at S1 ⊢
        obtain ⟨x2, k2, h2⟩ := scan_down (b := g78_l31_b (i2 : Int) q (a : Int)) (E := .exit 4) (by simp) (p := fun x => Sort.ltInt d'[a]! x) (i := i2) (by omega) (j0 := j) (fun j' y c1 hy => by
          unfold g78_l31_b
          refine wp_if (fun c => ?_) (fun c => ?_)
          · simp only [decide_eq_true_eq] at c
            (refine wp_lt (by (first | assumption | (apply J.drew; assumption) | (apply J.drew; apply J.drew; assumption) | (apply J.drew; apply J.drew; apply J.drew; assumption) | (apply J.drew; apply J.drew; apply J.drew; apply J.drew; assumption) | (apply J.drew; apply J.drew; apply J.drew; apply J.drew; apply J.drew; assumption))) (by omega) (by omega) (wp_bind (asB_bool ..) ?_))
            refine wp_if (fun c2 => ?_) (fun c2 => ?_)
            · (simp (disch := omega) only [wadd, wadd1, wdbl, wsub, wsub1] at *)
              refine wp_some ⟨by (first | assumption | (apply J.drew; assumption) | (apply J.drew; apply J.drew; assumption) | (apply J.drew; apply J.drew; apply J.drew; assumption) | (apply J.drew; apply J.drew; apply J.drew; apply J.drew; assumption) | (apply J.drew; apply J.drew; apply J.drew; apply J.drew; apply J.drew; assumption)), ?_⟩
              rw [if_pos ⟨by omega, c2⟩]
            · refine wp_some ⟨by (first | assumption | (apply J.drew; assumption) | (apply J.drew; apply J.drew; assumption) | (apply J.drew; apply J.drew; apply J.drew; assumption) | (apply J.drew; apply J.drew; apply J.drew; apply J.drew; assumption) | (apply J.drew; apply J.drew; apply J.drew; apply J.drew; apply J.drew; assumption)), ?_⟩
              rw [if_neg (fun c => c2 c.2)]
          · simp only [decide_eq_true_eq] at c
            refine wp_some ⟨by (first | assumption | (apply J.drew; assumption) | (apply J.drew; apply J.drew; assumption) | (apply J.drew; apply J.drew; apply J.drew; assumption) | (apply J.drew; apply J.drew; apply J.drew; apply J.drew; assumption) | (apply J.drew; apply J.drew; apply J.drew; apply J.drew; apply J.drew; assumption)), ?_⟩
            rw [if_neg (by omega)]) h1
        show wp (g78_l31 q (a : Int) (i2 : Int) (j : Int) x1) _
        rw [g78_l31_x4_of k2]
        unfold g78_l31_x4
        have S2 := Sort.scanDown_spec (fun x => Sort.ltInt d'[a]! x) d' i2 j
        have R := Sort.partEqLoop_eq Sort.ltInt a i j d'
        rw [hi2] at R
        obtain ⟨j2, hj2⟩ : ∃ j2, Sort.scanDown (fun x => Sort.ltInt d'[a]! x) d' i2 j = j2 := ⟨_, rfl⟩
        rw [hj2] at S2 R ⊢
        rw [hr] at R
        refine wp_if (fun c => ?_) (fun c => ?_)
        · simp only [decide_eq_true_eq] at c
          rw [if_pos (by omega)] at R
          refine wp_some (.inr ⟨by simp, ⟨rfl, ?_⟩, ?_⟩)
          · rw [R]
          · rw [R]; exact h2
        · simp only [decide_eq_true_eq] at c
          rw [if_neg (by omega)] at R
          (refine wp_swap (W := _) (by (first | assumption | (apply J.drew; assumption) | (apply J.drew; apply J.drew; assumption) | (apply J.drew; apply J.drew; apply J.drew; assumption) | (apply J.drew; apply J.drew; apply J.drew; apply J.drew; assumption) | (apply J.drew; apply J.drew; apply J.drew; apply J.drew; apply J.drew; assumption))) (by omega) (by omega) fun _ _ => ?_)
          rename_i y3 hy3
          (simp (disch := omega) only [wadd, wadd1, wdbl, wsub, wsub1] at *)
          exact wp_some (.inl ⟨rfl, ⟨i2 + 1, j2 - 1, _, rfl, by omega, hy3, R.symm⟩, by simp only; omega⟩))
      (s := (((a + 1 : Nat) : Int), ((b - 1 : Nat) : Int))) (w := y2) ⟨a + 1, b - 1, _, rfl, by omega, hy2, rfl⟩
    rw [g78_l11_x0_of g1, g78_l11_x0]
    exact wp_some ⟨by rw [ht], hJ⟩
  obtain ⟨⟨v, w'⟩, e, rfl, hJ⟩ := H
  exact ⟨w', g78_call e, hJ⟩

theorem part79 (h : J q g off W w d) {a b p : Nat} (hab : a < b) (hb : b ≤ q.2.1) (hp : a ≤ p ∧ p < b) :
    ∃ (w' : World), callF Try.prog 79 #[.slice q.1 q.2.1 q.2.2, .int .i64 (a : Int), .int .i64 (b : Int), .int .i64 (p : Int)] w = some (.tuple #[.int .i64 ((Sort.partition Sort.ltInt d a b p).1 : Int), .bool (Sort.partition Sort.ltInt d a b p).2.1], w') ∧ J q g off W w' (Sort.partition Sort.ltInt d a b p).2.2 := by
  have hle := h.le
  have H : wp (g79 q (a : Int) (b : Int) (p : Int) w) (fun r => r.1 = .tuple #[.int .i64 ((Sort.partition Sort.ltInt d a b p).1 : Int), .bool (Sort.partition Sort.ltInt d a b p).2.1] ∧ J q g off W r.2 (Sort.partition Sort.ltInt d a b p).2.2) := by
    unfold Sort.partition
    unfold g79
    (simp (disch := omega) only [wadd, wadd1, wdbl, wsub, wsub1] at *)
    (refine wp_swap (W := _) (by (first | assumption | (apply J.drew; assumption) | (apply J.drew; apply J.drew; assumption) | (apply J.drew; apply J.drew; apply J.drew; assumption) | (apply J.drew; apply J.drew; apply J.drew; apply J.drew; assumption) | (apply J.drew; apply J.drew; apply J.drew; apply J.drew; apply J.drew; assumption))) (by omega) (by omega) fun _ _ => ?_)
    rename_i y2 hy2
    obtain ⟨d1, hd1⟩ : ∃ d1, Sort.swp d a p = d1 := ⟨_, rfl⟩
    rw [hd1] at hy2 ⊢
    skip
    obtain ⟨x1, k1, h1⟩ := scan_up (b := g79_l11_b (b : Int) q (a : Int)) (E := .exit 0) (by simp) (p := fun x => Sort.ltInt x d1[a]!) (j := b - 1) (i0 := a + 1) (fun i' y c1 c2 hy => by
          unfold g79_l11_b
          try (simp (disch := omega) only [wadd, wadd1, wdbl, wsub, wsub1] at *)
          refine wp_if (fun c => ?_) (fun c => ?_)
          · simp only [decide_eq_true_eq] at c
            (refine wp_lt (by (first | assumption | (apply J.drew; assumption) | (apply J.drew; apply J.drew; assumption) | (apply J.drew; apply J.drew; apply J.drew; assumption) | (apply J.drew; apply J.drew; apply J.drew; apply J.drew; assumption) | (apply J.drew; apply J.drew; apply J.drew; apply J.drew; apply J.drew; assumption))) (by omega) (by omega) (wp_bind (asB_bool ..) ?_))
            refine wp_if (fun c2 => ?_) (fun c2 => ?_)
            · (simp (disch := omega) only [wadd, wadd1, wdbl, wsub, wsub1] at *)
              refine wp_some ⟨by (first | assumption | (apply J.drew; assumption) | (apply J.drew; apply J.drew; assumption) | (apply J.drew; apply J.drew; apply J.drew; assumption) | (apply J.drew; apply J.drew; apply J.drew; apply J.drew; assumption) | (apply J.drew; apply J.drew; apply J.drew; apply J.drew; apply J.drew; assumption)), ?_⟩
              rw [if_pos ⟨by omega, c2⟩]
            · refine wp_some ⟨by (first | assumption | (apply J.drew; assumption) | (apply J.drew; apply J.drew; assumption) | (apply J.drew; apply J.drew; apply J.drew; assumption) | (apply J.drew; apply J.drew; apply J.drew; apply J.drew; assumption) | (apply J.drew; apply J.drew; apply J.drew; apply J.drew; apply J.drew; assumption)), ?_⟩
              rw [if_neg (fun c => c2 c.2)]
          · simp only [decide_eq_true_eq] at c
            refine wp_some ⟨by (first | assumption | (apply J.drew; assumption) | (apply J.drew; apply J.drew; assumption) | (apply J.drew; apply J.drew; apply J.drew; assumption) | (apply J.drew; apply J.drew; apply J.drew; apply J.drew; assumption) | (apply J.drew; apply J.drew; apply J.drew; apply J.drew; apply J.drew; assumption)), ?_⟩
            rw [if_neg (by omega)]) hy2
    rw [g79_l11_x0_of k1]
    unfold g79_l11_x0
    have S1 := Sort.scanUp_spec (fun x => Sort.ltInt x d1[a]!) d1 (b - 1) _ (a + 1) rfl
    obtain ⟨i2, hi2⟩ : ∃ i2, Sort.scanUp (fun x => Sort.ltInt x d1[a]!) d1 (b - 1) (a + 1) = i2 := ⟨_, rfl⟩
    rw [hi2] at S1 ⊢
    (simp (disch := omega) only [wadd, wadd1, wdbl, wsub, wsub1] at *)
    obtain ⟨x2, k2, h2⟩ := scan_down (b := g79_l27_b (i2 : Int) q (a : Int)) (E := .exit 2) (by simp) (p := fun x => !Sort.ltInt x d1[a]!) (i := i2) (by omega) (j0 := b - 1) (fun j' y c1 hy => by
          unfold g79_l27_b
          try (simp (disch := omega) only [wadd, wadd1, wdbl, wsub, wsub1] at *)
          refine wp_if (fun c => ?_) (fun c => ?_)
          · simp only [decide_eq_true_eq] at c
            (refine wp_lt (by (first | assumption | (apply J.drew; assumption) | (apply J.drew; apply J.drew; assumption) | (apply J.drew; apply J.drew; apply J.drew; assumption) | (apply J.drew; apply J.drew; apply J.drew; apply J.drew; assumption) | (apply J.drew; apply J.drew; apply J.drew; apply J.drew; apply J.drew; assumption))) (by omega) (by omega) (wp_bind (asB_bool ..) ?_))
            refine wp_if (fun c2 => ?_) (fun c2 => ?_)
            · (simp (disch := omega) only [wadd, wadd1, wdbl, wsub, wsub1] at *)
              refine wp_some ⟨by (first | assumption | (apply J.drew; assumption) | (apply J.drew; apply J.drew; assumption) | (apply J.drew; apply J.drew; apply J.drew; assumption) | (apply J.drew; apply J.drew; apply J.drew; apply J.drew; assumption) | (apply J.drew; apply J.drew; apply J.drew; apply J.drew; apply J.drew; assumption)), ?_⟩
              rw [if_pos ⟨by omega, c2⟩]
            · refine wp_some ⟨by (first | assumption | (apply J.drew; assumption) | (apply J.drew; apply J.drew; assumption) | (apply J.drew; apply J.drew; apply J.drew; assumption) | (apply J.drew; apply J.drew; apply J.drew; apply J.drew; assumption) | (apply J.drew; apply J.drew; apply J.drew; apply J.drew; apply J.drew; assumption)), ?_⟩
              rw [if_neg (fun c => c2 c.2)]
          · simp only [decide_eq_true_eq] at c
            refine wp_some ⟨by (first | assumption | (apply J.drew; assumption) | (apply J.drew; apply J.drew; assumption) | (apply J.drew; apply J.drew; apply J.drew; assumption) | (apply J.drew; apply J.drew; apply J.drew; apply J.drew; assumption) | (apply J.drew; apply J.drew; apply J.drew; apply J.drew; apply J.drew; assumption)), ?_⟩
            rw [if_neg (by omega)]) h1
    rw [g79_l27_x2_of k2]
    unfold g79_l27_x2
    have S2 := Sort.scanDown_spec (fun x => !Sort.ltInt x d1[a]!) d1 i2 (b - 1)
    obtain ⟨j2, hj2⟩ : ∃ j2, Sort.scanDown (fun x => !Sort.ltInt x d1[a]!) d1 i2 (b - 1) = j2 := ⟨_, rfl⟩
    rw [hj2] at S2 ⊢
    refine wp_if (fun c => ?_) (fun c => ?_)
    · simp only [decide_eq_true_eq] at c
      rw [if_pos (by omega)]
      (refine wp_swap (W := _) (by (first | assumption | (apply J.drew; assumption) | (apply J.drew; apply J.drew; assumption) | (apply J.drew; apply J.drew; apply J.drew; assumption) | (apply J.drew; apply J.drew; apply J.drew; apply J.drew; assumption) | (apply J.drew; apply J.drew; apply J.drew; apply J.drew; apply J.drew; assumption))) (by omega) (by omega) fun _ _ => ?_)
      exact wp_some ⟨rfl, by (first | assumption | (apply J.drew; assumption) | (apply J.drew; apply J.drew; assumption) | (apply J.drew; apply J.drew; apply J.drew; assumption) | (apply J.drew; apply J.drew; apply J.drew; apply J.drew; assumption) | (apply J.drew; apply J.drew; apply J.drew; apply J.drew; apply J.drew; assumption))⟩
    simp only [decide_eq_true_eq] at c
    rw [if_neg (by omega)]
    (refine wp_swap (W := _) (by (first | assumption | (apply J.drew; assumption) | (apply J.drew; apply J.drew; assumption) | (apply J.drew; apply J.drew; apply J.drew; assumption) | (apply J.drew; apply J.drew; apply J.drew; apply J.drew; assumption) | (apply J.drew; apply J.drew; apply J.drew; apply J.drew; apply J.drew; assumption))) (by omega) (by omega) fun _ _ => ?_)
    rename_i y4 hy4
    (simp (disch := omega) only [wadd, wadd1, wdbl, wsub, wsub1] at *)
    obtain ⟨R, hR⟩ : ∃ R, Sort.partLoop Sort.ltInt a (i2 + 1) (j2 - 1) (Sort.swp d1 i2 j2) = R := ⟨_, rfl⟩
    rw [hR]
    obtain ⟨e, t, w3, g3, ⟨rfl, ht, htb⟩, hJ3⟩ := loop_wp (b := g79_l62_b q (a : Int)) (I := fun s x => ∃ (i j : Nat) (d' : Array Int), s = ((i : Int), (j : Int)) ∧ (a < i ∧ i ≤ j + 2 ∧ j < b) ∧ J q g off W x d' ∧ Sort.partLoop Sort.ltInt a i j d' = R)
      (Q := fun e s x => (e = .exit 4 ∧ s.2 = (R.1 : Int) ∧ R.1 < b) ∧ J q g off W x R.2) (fun s => (s.2 - s.1 + 2).toNat)
      (fun s x ⟨i, j, d', hs, hij, hx, hr⟩ => by
        subst hs
        unfold g79_l62_b
        obtain ⟨x1, k1, h1⟩ := scan_up (b := g79_l65_b ((i : Int), (j : Int)) q (a : Int)) (E := .exit 6) (by simp) (p := fun x => Sort.ltInt x d'[a]!) (j := j) (i0 := i) (fun i' y c1 c2 hy => by
          unfold g79_l65_b
          try (simp (disch := omega) only [wadd, wadd1, wdbl, wsub, wsub1] at *)
          refine wp_if (fun c => ?_) (fun c => ?_)
          · simp only [decide_eq_true_eq] at c
            (refine wp_lt (by (first | assumption | (apply J.drew; assumption) | (apply J.drew; apply J.drew; assumption) | (apply J.drew; apply J.drew; apply J.drew; assumption) | (apply J.drew; apply J.drew; apply J.drew; apply J.drew; assumption) | (apply J.drew; apply J.drew; apply J.drew; apply J.drew; apply J.drew; assumption))) (by omega) (by omega) (wp_bind (asB_bool ..) ?_))
            refine wp_if (fun c2 => ?_) (fun c2 => ?_)
            · (simp (disch := omega) only [wadd, wadd1, wdbl, wsub, wsub1] at *)
              refine wp_some ⟨by (first | assumption | (apply J.drew; assumption) | (apply J.drew; apply J.drew; assumption) | (apply J.drew; apply J.drew; apply J.drew; assumption) | (apply J.drew; apply J.drew; apply J.drew; apply J.drew; assumption) | (apply J.drew; apply J.drew; apply J.drew; apply J.drew; apply J.drew; assumption)), ?_⟩
              rw [if_pos ⟨by omega, c2⟩]
            · refine wp_some ⟨by (first | assumption | (apply J.drew; assumption) | (apply J.drew; apply J.drew; assumption) | (apply J.drew; apply J.drew; apply J.drew; assumption) | (apply J.drew; apply J.drew; apply J.drew; apply J.drew; assumption) | (apply J.drew; apply J.drew; apply J.drew; apply J.drew; apply J.drew; assumption)), ?_⟩
              rw [if_neg (fun c => c2 c.2)]
          · simp only [decide_eq_true_eq] at c
            refine wp_some ⟨by (first | assumption | (apply J.drew; assumption) | (apply J.drew; apply J.drew; assumption) | (apply J.drew; apply J.drew; apply J.drew; assumption) | (apply J.drew; apply J.drew; apply J.drew; apply J.drew; assumption) | (apply J.drew; apply J.drew; apply J.drew; apply J.drew; apply J.drew; assumption)), ?_⟩
            rw [if_neg (by omega)]) hx
        show wp (g79_l65 q (a : Int) ((i : Int), (j : Int)) (i : Int) x) _
        rw [g79_l65_x6_of k1]
        unfold g79_l65_x6
        have S1 := Sort.scanUp_spec (fun x => Sort.ltInt x d'[a]!) d' j _ i rfl
        obtain ⟨i2, hi2⟩ : ∃ i2, Sort.scanUp (fun x => Sort.ltInt x d'[a]!) d' j i = i2 := ⟨_, rfl⟩
        rw [hi2] at S1 ⊢
        obtain ⟨x2, k2, h2⟩ := scan_down (b := g79_l82_b (i2 : Int) q (a : Int)) (E := .exit 8) (by simp) (p := fun x => !Sort.ltInt x d'[a]!) (i := i2) (by omega) (j0 := j) (fun j' y c1 hy => by
          unfold g79_l82_b
          try (simp (disch := omega) only [wadd, wadd1, wdbl, wsub, wsub1] at *)
          refine wp_if (fun c => ?_) (fun c => ?_)
          · simp only [decide_eq_true_eq] at c
            (refine wp_lt (by (first | assumption | (apply J.drew; assumption) | (apply J.drew; apply J.drew; assumption) | (apply J.drew; apply J.drew; apply J.drew; assumption) | (apply J.drew; apply J.drew; apply J.drew; apply J.drew; assumption) | (apply J.drew; apply J.drew; apply J.drew; apply J.drew; apply J.drew; assumption))) (by omega) (by omega) (wp_bind (asB_bool ..) ?_))
            refine wp_if (fun c2 => ?_) (fun c2 => ?_)
            · (simp (disch := omega) only [wadd, wadd1, wdbl, wsub, wsub1] at *)
              refine wp_some ⟨by (first | assumption | (apply J.drew; assumption) | (apply J.drew; apply J.drew; assumption) | (apply J.drew; apply J.drew; apply J.drew; assumption) | (apply J.drew; apply J.drew; apply J.drew; apply J.drew; assumption) | (apply J.drew; apply J.drew; apply J.drew; apply J.drew; apply J.drew; assumption)), ?_⟩
              rw [if_pos ⟨by omega, c2⟩]
            · refine wp_some ⟨by (first | assumption | (apply J.drew; assumption) | (apply J.drew; apply J.drew; assumption) | (apply J.drew; apply J.drew; apply J.drew; assumption) | (apply J.drew; apply J.drew; apply J.drew; apply J.drew; assumption) | (apply J.drew; apply J.drew; apply J.drew; apply J.drew; apply J.drew; assumption)), ?_⟩
              rw [if_neg (fun c => c2 c.2)]
          · simp only [decide_eq_true_eq] at c
            refine wp_some ⟨by (first | assumption | (apply J.drew; assumption) | (apply J.drew; apply J.drew; assumption) | (apply J.drew; apply J.drew; apply J.drew; assumption) | (apply J.drew; apply J.drew; apply J.drew; apply J.drew; assumption) | (apply J.drew; apply J.drew; apply J.drew; apply J.drew; apply J.drew; assumption)), ?_⟩
            rw [if_neg (by omega)]) h1
        show wp (g79_l82 q (a : Int) (i2 : Int) (j : Int) x1) _
        rw [g79_l82_x8_of k2]
        unfold g79_l82_x8
        have S2 := Sort.scanDown_spec (fun x => !Sort.ltInt x d'[a]!) d' i2 j
        have R1 := Sort.partLoop_eq Sort.ltInt a i j d'
        rw [hi2] at R1
        obtain ⟨j2, hj2⟩ : ∃ j2, Sort.scanDown (fun x => !Sort.ltInt x d'[a]!) d' i2 j = j2 := ⟨_, rfl⟩
        rw [hj2] at S2 R1 ⊢
        rw [hr] at R1
        refine wp_if (fun c => ?_) (fun c => ?_)
        · simp only [decide_eq_true_eq] at c
          rw [if_pos (by omega)] at R1
          refine wp_some (.inr ⟨by simp, ⟨rfl, ?_, ?_⟩, ?_⟩)
          · rw [R1]
          · rw [R1]; simp only; omega
          · rw [R1]; exact h2
        · simp only [decide_eq_true_eq] at c
          rw [if_neg (by omega)] at R1
          (refine wp_swap (W := _) (by (first | assumption | (apply J.drew; assumption) | (apply J.drew; apply J.drew; assumption) | (apply J.drew; apply J.drew; apply J.drew; assumption) | (apply J.drew; apply J.drew; apply J.drew; apply J.drew; assumption) | (apply J.drew; apply J.drew; apply J.drew; apply J.drew; apply J.drew; assumption))) (by omega) (by omega) fun _ _ => ?_)
          rename_i y3 hy3
          (simp (disch := omega) only [wadd, wadd1, wdbl, wsub, wsub1] at *)
          exact wp_some (.inl ⟨rfl, ⟨i2 + 1, j2 - 1, _, rfl, by omega, hy3, R1.symm⟩, by simp only; omega⟩))
      (s := (((i2 + 1 : Nat) : Int), ((j2 - 1 : Nat) : Int))) (w := y4) ⟨i2 + 1, j2 - 1, _, rfl, by omega, hy4, hR⟩
    rw [g79_l62_x4_of g3]
    unfold g79_l62_x4
    rw [ht]
    (refine wp_swap (W := _) (by (first | assumption | (apply J.drew; assumption) | (apply J.drew; apply J.drew; assumption) | (apply J.drew; apply J.drew; apply J.drew; assumption) | (apply J.drew; apply J.drew; apply J.drew; apply J.drew; assumption) | (apply J.drew; apply J.drew; apply J.drew; apply J.drew; apply J.drew; assumption))) (by omega) (by omega) fun _ _ => ?_)
    exact wp_some ⟨rfl, by (first | assumption | (apply J.drew; assumption) | (apply J.drew; apply J.drew; assumption) | (apply J.drew; apply J.drew; apply J.drew; assumption) | (apply J.drew; apply J.drew; apply J.drew; apply J.drew; assumption) | (apply J.drew; apply J.drew; apply J.drew; apply J.drew; apply J.drew; assumption))⟩
  obtain ⟨⟨v, w'⟩, e, rfl, hJ⟩ := H
  exact ⟨w', g79_call e, hJ⟩
end
end Go.Proofs.Ytlcojbodcbjkaaa.SQ

namespace Go.Proofs.Ytlcojbodcbjkaaa.SQ
open Go Go.Ev
set_option maxRecDepth 100000
set_option linter.unusedVariables false
set_option linter.unusedSimpArgs false

section
variable {q : ShI} {g off : Nat} {W w : World} {d : Array Int}

theorem shift_down (h : J q g off W w d) {a b : Int} {s2 : Bool × Int × Int} {t : Int} {j0 : Nat} (hj : j0 < q.2.1) :
    ∃ t' w', loopS (g76_l32_b q a b s2 t) (j0 : Int) w = some (.exit 4, t', w') ∧ J q g off W w' (Sort.shiftDown Sort.ltInt j0 d) := by
  have hle := h.le
  obtain ⟨e, t, w1, g1, rfl, hJ⟩ := loop_wp (b := g76_l32_b q a b s2 t) (I := fun s x => ∃ (j : Nat) (d' : Array Int), s = (j : Int) ∧ j ≤ j0 ∧ J q g off W x d' ∧ Sort.shiftDown Sort.ltInt j d' = Sort.shiftDown Sort.ltInt j0 d)
    (Q := fun e s x => e = .exit 4 ∧ J q g off W x (Sort.shiftDown Sort.ltInt j0 d)) (fun s => s.toNat)
    (fun s x ⟨j, d', hs, h1, hx, hr⟩ => by
      subst hs
      unfold g76_l32_b
      refine wp_if (fun c => ?_) (fun c => ?_)
      · simp only [decide_eq_true_eq] at c
        obtain ⟨j, rfl⟩ : ∃ j', j = j' + 1 := ⟨j - 1, by omega⟩
        (simp (disch := omega) only [wadd, wadd1, wdbl, wsub, wsub1] at *)
        rw [Nat.add_sub_cancel]
        (refine wp_lt (by (first | assumption | (apply J.drew; assumption) | (apply J.drew; apply J.drew; assumption) | (apply J.drew; apply J.drew; apply J.drew; assumption) | (apply J.drew; apply J.drew; apply J.drew; apply J.drew; assumption) | (apply J.drew; apply J.drew; apply J.drew; apply J.drew; apply J.drew; assumption))) (by omega) (by omega) (wp_bind (asB_bool ..) ?_))
        rw [Sort.shiftDown] at hr
        refine wp_if (fun c2 => ?_) (fun c2 => ?_)
        · rw [if_pos c2] at hr
          exact wp_some (.inr ⟨by simp, rfl, by rw [← hr]; (first | assumption | (apply J.drew; assumption) | (apply J.drew; apply J.drew; assumption) | (apply J.drew; apply J.drew; apply J.drew; assumption) | (apply J.drew; apply J.drew; apply J.drew; apply J.drew; assumption) | (apply J.drew; apply J.drew; apply J.drew; apply J.drew; apply J.drew; assumption))⟩)
        · rw [if_neg c2] at hr
          (refine wp_swap (W := _) (by (first | assumption | (apply J.drew; assumption) | (apply J.drew; apply J.drew; assumption) | (apply J.drew; apply J.drew; apply J.drew; assumption) | (apply J.drew; apply J.drew; apply J.drew; apply J.drew; assumption) | (apply J.drew; apply J.drew; apply J.drew; apply J.drew; apply J.drew; assumption))) (by omega) (by omega) fun _ _ => ?_)
          rename_i hw'
          exact wp_some (.inl ⟨rfl, ⟨j, _, rfl, by omega, hw', hr⟩, by simp only; omega⟩)
      · simp only [decide_eq_true_eq] at c
        have e : j = 0 := by omega
        subst e
        exact wp_some (.inr ⟨by simp, rfl, by rw [← hr]; exact hx⟩))
    (s := (j0 : Int)) (w := w) ⟨j0, d, rfl, Nat.le_refl _, h, rfl⟩
  exact ⟨t, w1, g1, hJ⟩

theorem shift_up (h : J q g off W w d) {a : Int} {b : Nat} {s2 : Bool × Int × Int} {t : Int} (hb : b ≤ q.2.1) {j0 : Nat} (hj : 1 ≤ j0) :
    ∃ t' w', loopS (g76_l57_b (b : Int) q a s2 t) (j0 : Int) w = some (.exit 6, t', w') ∧ J q g off W w' (Sort.shiftUp Sort.ltInt b j0 d) := by
  have hle := h.le
  obtain ⟨e, t, w1, g1, rfl, hJ⟩ := loop_wp (b := g76_l57_b (b : Int) q a s2 t) (I := fun s x => ∃ (j : Nat) (d' : Array Int), s = (j : Int) ∧ j0 ≤ j ∧ J q g off W x d' ∧ Sort.shiftUp Sort.ltInt b j d' = Sort.shiftUp Sort.ltInt b j0 d)
    (Q := fun e s x => e = .exit 6 ∧ J q g off W x (Sort.shiftUp Sort.ltInt b j0 d)) (fun s => ((b : Int) - s).toNat)
    (fun s x ⟨j, d', hs, h1, hx, hr⟩ => by
      subst hs
      unfold g76_l57_b
      rw [Sort.shiftUp] at hr
      refine wp_if (fun c => ?_) (fun c => ?_)
      · simp only [decide_eq_true_eq] at c
        rw [if_pos (by omega)] at hr
        (simp (disch := omega) only [wadd, wadd1, wdbl, wsub, wsub1] at *)
        (refine wp_lt (by (first | assumption | (apply J.drew; assumption) | (apply J.drew; apply J.drew; assumption) | (apply J.drew; apply J.drew; apply J.drew; assumption) | (apply J.drew; apply J.drew; apply J.drew; apply J.drew; assumption) | (apply J.drew; apply J.drew; apply J.drew; apply J.drew; apply J.drew; assumption))) (by omega) (by omega) (wp_bind (asB_bool ..) ?_))
        refine wp_if (fun c2 => ?_) (fun c2 => ?_)
        · rw [if_pos c2] at hr
          exact wp_some (.inr ⟨by simp, rfl, by rw [← hr]; (first | assumption | (apply J.drew; assumption) | (apply J.drew; apply J.drew; assumption) | (apply J.drew; apply J.drew; apply J.drew; assumption) | (apply J.drew; apply J.drew; apply J.drew; apply J.drew; assumption) | (apply J.drew; apply J.drew; apply J.drew; apply J.drew; apply J.drew; assumption))⟩)
        · rw [if_neg c2] at hr
          (refine wp_swap (W := _) (by (first | assumption | (apply J.drew; assumption) | (apply J.drew; apply J.drew; assumption) | (apply J.drew; apply J.drew; apply J.drew; assumption) | (apply J.drew; apply J.drew; apply J.drew; apply J.drew; assumption) | (apply J.drew; apply J.drew; apply J.drew; apply J.drew; apply J.drew; assumption))) (by omega) (by omega) fun _ _ => ?_)
          rename_i hw'
          exact wp_some (.inl ⟨rfl, ⟨j + 1, _, rfl, by omega, hw', hr⟩, by simp only; omega⟩)
      · simp only [decide_eq_true_eq] at c
        rw [if_neg (by omega)] at hr
        exact wp_some (.inr ⟨by simp, rfl, by rw [← hr]; exact hx⟩))
    (s := (j0 : Int)) (w := w) ⟨j0, d, rfl, Nat.le_refl _, h, rfl⟩
  exact ⟨t, w1, g1, hJ⟩
theorem l81_57 : g76_l81_b = g76_l57_b := rfl

theorem scan_sorted (h : J q g off W w d) {a : Int} {b : Nat} {s2 : Bool × Int × Int} (hb : b ≤ q.2.1) {i0 : Nat} (hi : 1 ≤ i0) :
    ∃ w', loopS (g76_l4_b (b : Int) q a s2) (i0 : Int) w = some (.exit 2, ((Sort.scanSorted Sort.ltInt d b i0 : Nat) : Int), w') ∧ J q g off W w' d := by
  have hle := h.le
  obtain ⟨e, t, w1, g1, ⟨rfl, rfl⟩, hJ⟩ := loop_wp (b := g76_l4_b (b : Int) q a s2) (I := fun s x => ∃ (i : Nat), s = (i : Int) ∧ i0 ≤ i ∧ J q g off W x d ∧ Sort.scanSorted Sort.ltInt d b i = Sort.scanSorted Sort.ltInt d b i0)
    (Q := fun e s x => (e = .exit 2 ∧ s = ((Sort.scanSorted Sort.ltInt d b i0 : Nat) : Int)) ∧ J q g off W x d) (fun s => ((b : Int) - s).toNat)
    (fun s x ⟨i, hs, h1, hx, hr⟩ => by
      subst hs
      unfold g76_l4_b
      rw [Sort.scanSorted] at hr
      refine wp_if (fun c => ?_) (fun c => ?_)
      · simp only [decide_eq_true_eq] at c
        (simp (disch := omega) only [wadd, wadd1, wdbl, wsub, wsub1] at *)
        (refine wp_lt (by (first | assumption | (apply J.drew; assumption) | (apply J.drew; apply J.drew; assumption) | (apply J.drew; apply J.drew; apply J.drew; assumption) | (apply J.drew; apply J.drew; apply J.drew; apply J.drew; assumption) | (apply J.drew; apply J.drew; apply J.drew; apply J.drew; apply J.drew; assumption))) (by omega) (by omega) (wp_bind (asB_bool ..) ?_))
        refine wp_if (fun c2 => ?_) (fun c2 => ?_)
        · rw [if_pos (by simp only [Bool.and_eq_true, decide_eq_true_eq]; exact ⟨by omega, c2⟩)] at hr
          exact wp_some (.inl ⟨rfl, ⟨i + 1, rfl, by omega, by (first | assumption | (apply J.drew; assumption) | (apply J.drew; apply J.drew; assumption) | (apply J.drew; apply J.drew; apply J.drew; assumption) | (apply J.drew; apply J.drew; apply J.drew; apply J.drew; assumption) | (apply J.drew; apply J.drew; apply J.drew; apply J.drew; apply J.drew; assumption)), hr⟩, by simp only; omega⟩)
        · rw [if_neg (by simp only [Bool.and_eq_true, decide_eq_true_eq]; exact fun c => c2 c.2)] at hr
          exact wp_some (.inr ⟨by simp, ⟨rfl, by rw [← hr]⟩, by (first | assumption | (apply J.drew; assumption) | (apply J.drew; apply J.drew; assumption) | (apply J.drew; apply J.drew; apply J.drew; assumption) | (apply J.drew; apply J.drew; apply J.drew; apply J.drew; assumption) | (apply J.drew; apply J.drew; apply J.drew; apply J.drew; apply J.drew; assumption))⟩)
      · simp only [decide_eq_true_eq] at c
        rw [if_neg (by simp only [Bool.and_eq_true, decide_eq_true_eq]; omega)] at hr
        exact wp_some (.inr ⟨by simp, ⟨rfl, by rw [← hr]⟩, by (first | assumption | (apply J.drew; assumption) | (apply J.drew; apply J.drew; assumption) | (apply J.drew; apply J.drew; apply J.drew; assumption) | (apply J.drew; apply J.drew; apply J.drew; apply J.drew; assumption) | (apply J.drew; apply J.drew; apply J.drew; apply J.drew; apply J.drew; assumption))⟩))
    (s := (i0 : Int)) (w := w) ⟨i0, rfl, Nat.le_refl _, h, rfl⟩
  exact ⟨w1, g1, hJ⟩
theorem scan_le (d : Array Int) (b : Nat) : ∀ n i : Nat, b - i = n → i ≤ b → i ≤ Sort.scanSorted Sort.ltInt d b i ∧ Sort.scanSorted Sort.ltInt d b i ≤ b := by
  intro n
  induction n with
  | zero =>
    intro i h1 h2
    rw [Sort.scanSorted, if_neg (by simp; omega)]
    omega
  | succ n ih =>
    intro i h1 h2
    rw [Sort.scanSorted]
    split
    · have := ih (i + 1) (by omega) (by omega)
      omega
    · omega

theorem partial76 (h : J q g off W w d) {a b : Nat} (hab : a < b) (hb : b ≤ q.2.1) :
    ∃ w', callF Try.prog 76 #[.slice q.1 q.2.1 q.2.2, .int .i64 (a : Int), .int .i64 (b : Int)] w = some (.bool (Sort.partialInsertionSort Sort.ltInt d a b).2, w') ∧ J q g off W w' (Sort.partialInsertionSort Sort.ltInt d a b).1 := by
  have hle := h.le
  unfold Sort.partialInsertionSort
  obtain ⟨R, hR⟩ : ∃ R, Sort.partialIns Sort.ltInt a b 5 (a + 1) d = R := ⟨_, rfl⟩
  rw [hR]
  obtain ⟨e, t, w1, g1, he, hJ⟩ := loop_wp (b := g76_l1_b q (a : Int) (b : Int)) (I := fun s x => ∃ (f : Bool) (i k : Nat) (d' : Array Int), s = (f, (i : Int), (k : Int)) ∧ a + 1 ≤ i ∧ i ≤ b ∧ k ≤ 5 ∧ J q g off W x d' ∧ Sort.partialIns Sort.ltInt a b (5 - k) i d' = R)
    (Q := fun e s x => (e = .exit 0 ∧ R.2 = false ∨ e = .ret ∧ R.2 = s.1) ∧ J q g off W x R.1) (fun s => (5 - s.2.2).toNat)
    (fun s x ⟨f, i, k, d', hs, hi1, hi2, hk, hx, hr⟩ => by
      subst hs
      unfold g76_l1_b
      refine wp_if (fun c => ?_) (fun c => ?_)
      case refine_2 =>
        simp only [decide_eq_true_eq] at c
        have e : 5 - k = 0 := by omega
        rw [e, Sort.partialIns] at hr
        subst hr
        exact wp_some (.inr ⟨by simp, .inl ⟨rfl, rfl⟩, hx⟩)
      simp only [decide_eq_true_eq] at c
      have e : 5 - k = (5 - (k + 1)) + 1 := by omega
      rw [e, Sort.partialIns] at hr
      simp only [] at hr
      obtain ⟨x1, k1, h1⟩ := scan_sorted hx (a := (a : Int)) (b := b) (s2 := (f, (i : Int), (k : Int))) hb (i0 := i) (by omega)
      show wp (g76_l4 q (a : Int) (b : Int) (f, (i : Int), (k : Int)) (i : Int) x) _
      rw [g76_l4_x2_of k1]
      have S := scan_le d' b _ i rfl hi2
      obtain ⟨t, ht⟩ : ∃ t, Sort.scanSorted Sort.ltInt d' b i = t := ⟨_, rfl⟩
      rw [ht] at S hr ⊢
      unfold g76_l4_x2
      (simp (disch := omega) only [wadd, wadd1, wdbl, wsub, wsub1] at *)
      refine wp_if (fun c => ?_) (fun c => ?_)
      · have c' : t = b := by simp at c; omega
        rw [if_pos c'] at hr
        subst hr
        exact wp_some (.inr ⟨by simp, .inr ⟨rfl, rfl⟩, h1⟩)
      have c' : ¬ t = b := by simp at c; omega
      rw [if_neg c'] at hr
      refine wp_if (fun c => ?_) (fun c => ?_)
      · simp only [decide_eq_true_eq] at c
        rw [if_pos (by omega)] at hr
        subst hr
        exact wp_some (.inr ⟨by simp, .inr ⟨rfl, rfl⟩, h1⟩)
      simp only [decide_eq_true_eq] at c
      rw [if_neg (by omega)] at hr
      try (simp (disch := omega) only [wadd, wadd1, wdbl, wsub, wsub1] at *)
      (refine wp_swap (W := _) (by (first | assumption | (apply J.drew; assumption) | (apply J.drew; apply J.drew; assumption) | (apply J.drew; apply J.drew; apply J.drew; assumption) | (apply J.drew; apply J.drew; apply J.drew; apply J.drew; assumption) | (apply J.drew; apply J.drew; apply J.drew; apply J.drew; apply J.drew; assumption))) (by omega) (by omega) fun _ _ => ?_)
      rename_i y2 hy2
      have goOn : ∀ (y : World) (d2 : Array Int), J q g off W y d2 → Sort.partialIns Sort.ltInt a b (5 - (k + 1)) t d2 = R →
          wp (some (Exit.normal, (f, (t : Int), ((k + 1 : Nat) : Int)), y)) (fun r : Exit × (Bool × Int × Int) × World => r.1 = .normal ∧ (∃ (f : Bool) (i k : Nat) (d' : Array Int), r.2.1 = (f, (i : Int), (k : Int)) ∧ a + 1 ≤ i ∧ i ≤ b ∧ k ≤ 5 ∧ J q g off W r.2.2 d' ∧ Sort.partialIns Sort.ltInt a b (5 - k) i d' = R) ∧ (5 - r.2.1.2.2).toNat < (5 - (k : Int)).toNat ∨ r.1 ≠ .normal ∧ (r.1 = .exit 0 ∧ R.2 = false ∨ r.1 = .ret ∧ R.2 = r.2.1.1) ∧ J q g off W r.2.2 R.1) := by
        intro y d2 hy he
        exact wp_some (.inl ⟨rfl, ⟨f, t, k + 1, d2, rfl, by omega, by omega, by omega, hy, he⟩, by simp only; omega⟩)
      refine wp_if (fun c => ?_) (fun c => ?_)
      · simp only [decide_eq_true_eq] at c
        rw [if_pos (show t - a ≥ 2 by omega)] at hr
        obtain ⟨t3, x3, k3, h3⟩ := shift_down hy2 (a := (a : Int)) (b := (b : Int)) (s2 := (f, (i : Int), (k : Int))) (t := (t : Int)) (j0 := t - 1) (by omega)
        rw [g76_l32_x4_of k3]
        unfold g76_l32_x4
        (simp (disch := omega) only [wadd, wadd1, wdbl, wsub, wsub1] at *)
        refine wp_if (fun c => ?_) (fun c => ?_)
        · simp only [decide_eq_true_eq] at c
          rw [if_pos (show b - t ≥ 2 by omega)] at hr
          obtain ⟨t4, x4, k4, h4⟩ := shift_up h3 (a := (a : Int)) (b := b) (s2 := (f, (i : Int), (k : Int))) (t := (t : Int)) hb (j0 := t + 1) (by omega)
          rw [g76_l57_x6_of k4]
          unfold g76_l57_x6
          (simp (disch := omega) only [wadd, wadd1, wdbl, wsub, wsub1] at *)
          exact goOn _ _ h4 hr
        · simp only [decide_eq_true_eq] at c
          rw [if_neg (show ¬ b - t ≥ 2 by omega)] at hr
          exact goOn _ _ h3 hr
      · simp only [decide_eq_true_eq] at c
        rw [if_neg (show ¬ t - a ≥ 2 by omega)] at hr
        refine wp_if (fun c => ?_) (fun c => ?_)
        · simp only [decide_eq_true_eq] at c
          rw [if_pos (show b - t ≥ 2 by omega)] at hr
          obtain ⟨t4, x4, k4, h4⟩ := shift_up hy2 (a := (a : Int)) (b := b) (s2 := (f, (i : Int), (k : Int))) (t := (t : Int)) hb (j0 := t + 1) (by omega)
          rw [← l81_57] at k4
          rw [g76_l81_x6_of k4]
          unfold g76_l81_x6
          (simp (disch := omega) only [wadd, wadd1, wdbl, wsub, wsub1] at *)
          exact goOn _ _ h4 hr
        · simp only [decide_eq_true_eq] at c
          rw [if_neg (show ¬ b - t ≥ 2 by omega)] at hr
          exact goOn _ _ hy2 hr)
    (s := (false, ((a + 1 : Nat) : Int), ((0 : Nat) : Int))) (w := w) ⟨false, a + 1, 0, d, rfl, Nat.le_refl _, by omega, by omega, h, hR⟩
  obtain ⟨t0, t1, t2⟩ := t
  rcases he with ⟨rfl, he⟩ | ⟨rfl, he⟩
  · refine ⟨w1, g76_call ?_, hJ⟩
    unfold g76
    (simp (disch := omega) only [wadd, wadd1, wdbl, wsub, wsub1] at *)
    rw [he]
    erw [g76_l1_x0_of g1]
    rw [g76_l1_x0]
  · refine ⟨w1, g76_call ?_, hJ⟩
    unfold g76
    (simp (disch := omega) only [wadd, wadd1, wdbl, wsub, wsub1] at *)
    rw [he]
    erw [g76_l1_ret_of g1]
    rw [g76_l1_ret]
end
end Go.Proofs.Ytlcojbodcbjkaaa.SQ

namespace Go.Proofs.Ytlcojbodcbjkaaa.SQ
open Go Go.Ev
set_option maxRecDepth 100000
set_option linter.unusedVariables false
set_option linter.unusedSimpArgs false

/-- Len64 of a small number: the power it names is at most twice the number -/
theorem lenS (w : World) {u : Nat} (h0 : 1 ≤ u) (h1 : u < 4294967296) : ∃ m : Nat, callF Try.prog 81 #[.int .u64 (u : Int)] w = some (.int .i64 (m : Int), w) ∧ 2 ^ m ≤ 2 * u ∧ m ≤ 32 := by
  have p8 : (2 : Int) ^ (min (Int.toNat 8) 64) = 256 := by decide
  have j7 : ∀ (x : Nat) (n : Nat), x < 256 → n ≤ 24 → 1 ≤ x → ∃ m : Nat, g81_j7 w (x : Int) (n : Int) = some (.int .i64 ((n + m : Nat) : Int), w) ∧ 2 ^ m ≤ 2 * x ∧ m ≤ 8 := by
    intro x n hx hn hx1
    have H : ∀ (T : ByteArray) (y : Int), y = (x : Int) → T.size = 256 → (∀ k : Fin 256, (T.data[k.val]!).toNat ≤ 8 ∧ (1 ≤ k.val → 2 ^ (T.data[k.val]!).toNat ≤ 2 * k.val)) →
        ∃ m : Nat, (strIdx T y).bind (fun n10 => some (Value.int .i64 (IntKind.i64.wrap ((n : Int) + IntKind.i64.wrap n10)), w)) = some (.int .i64 ((n + m : Nat) : Int), w) ∧ 2 ^ m ≤ 2 * x ∧ m ≤ 8 := by
      intro T y hy hT hk
      obtain ⟨k1, k2⟩ := hk ⟨x, hx⟩
      refine ⟨(T.data[x]!).toNat, ?_, k2 hx1, k1⟩
      have e : strIdx T y = some (((T.data[x]!).toNat : Nat) : Int) := by
        subst hy
        unfold strIdx
        rw [if_pos (by omega)]
        have h2 : ((x : Int)).toNat = x := by omega
        rw [h2]
        have hs : x < T.size := by omega
        rw [getElem?_pos T x hs]
        have hd : x < T.data.size := hs
        rw [getElem!_pos T.data x hd]
        rfl
      rw [e]
      simp only at k1
      show some (Value.int .i64 (IntKind.i64.wrap ((n : Int) + IntKind.i64.wrap (((T.data[x]!).toNat : Nat) : Int))), w) = _
      rw [wrap_i64 (n := (((T.data[x]!).toNat : Nat) : Int)) (by omega) (by omega), wrap_i64 (by omega) (by omega)]
      push_cast
      rfl
    unfold g81_j7
    refine H _ _ ?_ ?_ ?_
    · have e : IntKind.u8.wrap (x : Int) = (x : Int) % 256 := by simp [IntKind.wrap, IntKind.bits, IntKind.signed]
      first | (rw [e]; omega) | rfl
    · decide
    · decide
  have j4 : ∀ (x n : Nat), x < 65536 → n ≤ 16 → 1 ≤ x → ∃ m : Nat, g81_j4 w (x : Int) (n : Int) = some (.int .i64 ((n + m : Nat) : Int), w) ∧ 2 ^ m ≤ 2 * x ∧ m ≤ 16 := by
    intro x n hx hn hx1
    unfold g81_j4
    rw [p8]
    by_cases h : (256 : Nat) ≤ x
    · have k : decide ((x : Int) ≥ 256) = true := by simp; omega
      rw [if_pos k, Int.fdiv_eq_ediv_of_nonneg _ (by omega)]
      have e : ((x : Int) / 256) = ((x / 256 : Nat) : Int) := by omega
      have e8 : IntKind.i64.wrap ((n : Int) + 8) = ((n + 8 : Nat) : Int) := by rw [wrap_i64 (by omega) (by omega)]; omega
      rw [e, e8]
      obtain ⟨m, h1, h2, h3⟩ := j7 (x / 256) (n + 8) (by omega) (by omega) (by omega)
      refine ⟨8 + m, by rw [h1]; congr 3; omega, ?_, by omega⟩
      rw [Nat.pow_add]
      have : (2 : Nat) ^ 8 = 256 := by decide
      rw [this]
      have := Nat.mul_le_mul_left 256 h2
      have h4 : 256 * (2 * (x / 256)) ≤ 2 * x := by omega
      omega
    · have k : ¬ decide ((x : Int) ≥ 256) = true := by simp; omega
      rw [if_neg k]
      obtain ⟨m, h1, h2, h3⟩ := j7 x n (by omega) (by omega) (by omega)
      exact ⟨m, h1, h2, by omega⟩
  have p16 : (2 : Int) ^ (min (Int.toNat 16) 64) = 65536 := by decide
  have j1 : ∃ m : Nat, g81_j1 w (u : Int) 0 = some (.int .i64 (m : Int), w) ∧ 2 ^ m ≤ 2 * u ∧ m ≤ 32 := by
    unfold g81_j1
    rw [p16]
    by_cases h : (65536 : Nat) ≤ u
    · have k : decide ((u : Int) ≥ 65536) = true := by simp; omega
      rw [if_pos k, Int.fdiv_eq_ediv_of_nonneg _ (by omega)]
      have e : ((u : Int) / 65536) = ((u / 65536 : Nat) : Int) := by omega
      have e8 : IntKind.i64.wrap ((0 : Int) + 16) = ((16 : Nat) : Int) := by decide
      rw [e, e8]
      obtain ⟨m, h1, h2, h3⟩ := j4 (u / 65536) 16 (by omega) (by omega) (by omega)
      refine ⟨16 + m, h1, ?_, by omega⟩
      rw [Nat.pow_add]
      have : (2 : Nat) ^ 16 = 65536 := by decide
      rw [this]
      have := Nat.mul_le_mul_left 65536 h2
      have h4 : 65536 * (2 * (u / 65536)) ≤ 2 * u := by omega
      omega
    · have k : ¬ decide ((u : Int) ≥ 65536) = true := by simp; omega
      rw [if_neg k]
      obtain ⟨m, h1, h2, h3⟩ := j4 u 0 (by omega) (by omega) (by omega)
      exact ⟨m, by simpa using h1, h2, by omega⟩
  obtain ⟨m, e, h2, h3⟩ := j1
  refine ⟨m, g81_call ?_, h2, h3⟩
  unfold g81
  have k1 : ¬ decide ((u : Int) ≥ 4294967296) = true := by simp; omega
  rw [if_neg k1]
  exact e

theorem npow84 (w : World) {u : Nat} (h0 : 1 ≤ u) (h1 : u < 4294967296) : ∃ m : Nat, callF Try.prog 84 #[.int .i64 (u : Int)] w = some (.int .u64 (m : Int), w) ∧ m ≤ 2 * u ∧ 1 ≤ m := by
  obtain ⟨m, e, h2, h3⟩ := lenS w h0 h1
  have e64 : callF Try.prog 64 #[.int .u64 (u : Int)] w = some (.int .i64 (m : Int), w) := g64_call (by unfold g64; simp only [e, obs, asP_pointer, asB_bool, asI_int, asS_string, asSl_slice, asM_map, asTup0, asTup1, asTup2, asTup3, asTup4, asTup5, asTup6, asTup7, asTup8, asTup9, asAgg2, asAgg3, asAgg4, asAgg5, asAgg6, asAgg7, asAgg8, asAgg9, asAgg12, getD0, getD1, getD2, getD3, getD4, getD5, getD6, getD7, getD8, getD9, getD10, getD11, getD12, getD13, getD14, getD15, getD16, getD17, getD18, getD19, Bool.not_true, Bool.not_false, Bool.false_eq_true, Bool.true_eq_false, ↓reduceIte, decide_true, decide_false, Option.isNone_some, Option.isNone_none, Option.isSome_some, Option.isSome_none, beq_self_eq_true, bne_self_eq_false, Bool.and_true, Bool.true_and, Bool.and_false, Bool.false_and, not_true_eq_false, not_false_eq_true])
  have hp : (1 : Nat) ≤ 2 ^ m := Nat.one_le_two_pow
  refine ⟨2 ^ m, g84_call ?_, h2, hp⟩
  have w1 : IntKind.u64.wrap (u : Int) = (u : Int) := wrap_u64 (by omega) (by omega)
  have hm : min ((m : Int)).toNat 64 = m := by omega
  have h4 : ¬ ((m : Int) < 0) := by omega
  unfold g84
  simp only [w1, e64, obs, asP_pointer, asB_bool, asI_int, asS_string, asSl_slice, asM_map, asTup0, asTup1, asTup2, asTup3, asTup4, asTup5, asTup6, asTup7, asTup8, asTup9, asAgg2, asAgg3, asAgg4, asAgg5, asAgg6, asAgg7, asAgg8, asAgg9, asAgg12, getD0, getD1, getD2, getD3, getD4, getD5, getD6, getD7, getD8, getD9, getD10, getD11, getD12, getD13, getD14, getD15, getD16, getD17, getD18, getD19, Bool.not_true, Bool.not_false, Bool.false_eq_true, Bool.true_eq_false, ↓reduceIte, decide_true, decide_false, Option.isNone_some, Option.isNone_none, Option.isSome_some, Option.isSome_none, beq_self_eq_true, bne_self_eq_false, Bool.and_true, Bool.true_and, Bool.and_false, Bool.false_and, not_true_eq_false, not_false_eq_true]
  rw [if_neg h4, hm]
  have hc : (1 : Int) * 2 ^ m = ((2 ^ m : Nat) : Int) := by simp
  rw [hc, wrap_u64 (by omega) (by omega)]

theorem wp_ldx {β : Type} {w : World} {p : Nat} {x : Int} {f : Int → Option β} {Q : β → Prop} (h : Blk w p [.int .u64 x] 126) (hf : wp (f x) Q) : wp ((w.cell? ⟨p, 0, none⟩).bind fun v => (asI .u64 v).bind f) Q := by
  have c0 : w.cell? ⟨p, 0, none⟩ = some (.int .u64 x) := h.cell 0
  exact wp_bind c0 (wp_bind (asI_int ..) hf)
theorem wp_stx {β : Type} {w : World} {p : Nat} {x v : Int} {f : World → Option β} {Q : β → Prop} (h : Blk w p [.int .u64 x] 126) (hf : ∀ w', Blk w' p [.int .u64 v] 126 → Fr [p] w w' → wp (f w') Q) : wp ((st1 w ⟨p, 0, none⟩ (.int .u64 v)).bind f) Q :=
  wp_bind (h.st1 (i := 0) (v := .int .u64 v) (by simp) rfl) (hf _ (h.set 0 (.int .u64 v)) Fr.setCell)

theorem next85 {w : World} {p : Nat} {x : Int} (h : Blk w p [.int .u64 x] 126) : ∃ (n y : Int) (w' : World), callF Try.prog 85 #[.pointer (some ⟨p, 0, none⟩)] w = some (.int .u64 n, w') ∧ Blk w' p [.int .u64 y] 126 ∧ Fr [p] w w' := by
  have H : wp (g85 (some ⟨p, 0, none⟩) w) (fun r => ∃ n y : Int, r.1 = .int .u64 n ∧ Blk r.2 p [.int .u64 y] 126 ∧ Fr [p] w r.2) := by
    have b0 := h.fr (Fr.drew [] w) (by simp)
    unfold g85
    refine wp_bind rfl (wp_ldx b0 (wp_bind rfl (wp_ldx b0 (wp_bind rfl (wp_stx b0 fun w1 b1 f1 => ?_)))))
    have b1' := b1.fr (Fr.drew [] w1) (by simp)
    refine wp_bind rfl (wp_ldx b1' (wp_bind rfl (wp_ldx b1' (wp_bind rfl (wp_stx b1' fun w2 b2 f2 => ?_)))))
    have b2' := b2.fr (Fr.drew [] w2) (by simp)
    refine wp_bind rfl (wp_ldx b2' (wp_bind rfl (wp_ldx b2' (wp_bind rfl (wp_stx b2' fun w3 b3 f3 => ?_)))))
    refine wp_bind rfl (wp_ldx b3 (wp_some ⟨_, _, rfl, b3, ?_⟩))
    have d1 := Fr.drew [] w
    have d2 := Fr.drew [] w1
    have d3 := Fr.drew [] w2
    exact (((((d1.app f1).app d2).app f2).app d3).app f3).mono (by intro y hy _; simpa using hy)
  obtain ⟨⟨v, w'⟩, e, n, y, rfl, hb, hf⟩ := H
  exact ⟨n, y, w', g85_call e, hb, hf⟩

section
variable {q : ShI} {g off : Nat} {W w : World} {d : Array Int}
theorem J.other (h : J q g off W w d) {p : Nat} {w' : World} (f : Fr [p] w w') (hp : p ∉ blkOf q) (hW : W.heap.size ≤ p) : J q g off W w' d :=
  ⟨h.at_, h.own.fr f (by intro y hy hm; simp at hm; subst hm; exact hp hy), (h.fr.app f).mono (by intro y hy hlt; simp at hy; rcases hy with hy | hy; exact hy; omega), h.le⟩
theorem J.notnew (h : J q g off W w d) : w.heap.size ∉ blkOf q := by
  intro hm
  rcases h.own.at_ with ⟨h1, _⟩ | ⟨g', o', cur, h1, h2, _⟩
  · simp [blkOf, h1] at hm
  · have hlt : g' < w.heap.size := by
      by_cases c : g' < w.heap.size
      · exact c
      · rw [Array.getElem?_eq_none (by omega)] at h2; cases h2
    simp [blkOf, h1] at hm
    omega

theorem order89 (h : J q g off W w d) {p : Nat} {c : Int} (hb : Blk w p [.int .i64 c] 3) (hn : p ∉ blkOf q) (hW : W.heap.size ≤ p) {i j : Int} (hi : 0 ≤ i ∧ i < (q.2.1 : Int)) (hj : 0 ≤ j ∧ j < (q.2.1 : Int)) :
    ∃ (x y c' : Int) (w' : World), callF Try.prog 89 #[.slice q.1 q.2.1 q.2.2, .int .i64 i, .int .i64 j, .pointer (some ⟨p, 0, none⟩)] w = some (.tuple #[.int .i64 x, .int .i64 y], w') ∧ J q g off W w' d ∧ Blk w' p [.int .i64 c'] 3 ∧ (x = i ∧ y = j ∨ x = j ∧ y = i) := by
  have H : wp (g89 q i j (some ⟨p, 0, none⟩) w) (fun r => ∃ x y c' : Int, r.1 = .tuple #[.int .i64 x, .int .i64 y] ∧ J q g off W r.2 d ∧ Blk r.2 p [.int .i64 c'] 3 ∧ (x = i ∧ y = j ∨ x = j ∧ y = i)) := by
    have b0 := hb.fr (Fr.drew [] w) (by simp)
    unfold g89
    (first | (refine wp_ix (by (first | assumption | (apply J.drew; assumption) | (apply J.drew; apply J.drew; assumption) | (apply J.drew; apply J.drew; apply J.drew; assumption) | (apply J.drew; apply J.drew; apply J.drew; apply J.drew; assumption) | (apply J.drew; apply J.drew; apply J.drew; apply J.drew; apply J.drew; assumption))) (by omega) (by omega) ?_) | (refine wp_ld (by (first | assumption | (apply J.drew; assumption) | (apply J.drew; apply J.drew; assumption) | (apply J.drew; apply J.drew; apply J.drew; assumption) | (apply J.drew; apply J.drew; apply J.drew; apply J.drew; assumption) | (apply J.drew; apply J.drew; apply J.drew; apply J.drew; apply J.drew; assumption))) (by omega) (by omega) ?_) | (refine wp_st (by (first | assumption | (apply J.drew; assumption) | (apply J.drew; apply J.drew; assumption) | (apply J.drew; apply J.drew; apply J.drew; assumption) | (apply J.drew; apply J.drew; apply J.drew; apply J.drew; assumption) | (apply J.drew; apply J.drew; apply J.drew; apply J.drew; apply J.drew; assumption))) (by omega) (by omega) fun _ _ => ?_) | (refine wp_less (wp_bind (asB_bool ..) ?_))); (first | (refine wp_ix (by (first | assumption | (apply J.drew; assumption) | (apply J.drew; apply J.drew; assumption) | (apply J.drew; apply J.drew; apply J.drew; assumption) | (apply J.drew; apply J.drew; apply J.drew; apply J.drew; assumption) | (apply J.drew; apply J.drew; apply J.drew; apply J.drew; apply J.drew; assumption))) (by omega) (by omega) ?_) | (refine wp_ld (by (first | assumption | (apply J.drew; assumption) | (apply J.drew; apply J.drew; assumption) | (apply J.drew; apply J.drew; apply J.drew; assumption) | (apply J.drew; apply J.drew; apply J.drew; apply J.drew; assumption) | (apply J.drew; apply J.drew; apply J.drew; apply J.drew; apply J.drew; assumption))) (by omega) (by omega) ?_) | (refine wp_st (by (first | assumption | (apply J.drew; assumption) | (apply J.drew; apply J.drew; assumption) | (apply J.drew; apply J.drew; apply J.drew; assumption) | (apply J.drew; apply J.drew; apply J.drew; apply J.drew; assumption) | (apply J.drew; apply J.drew; apply J.drew; apply J.drew; apply J.drew; assumption))) (by omega) (by omega) fun _ _ => ?_) | (refine wp_less (wp_bind (asB_bool ..) ?_))); (first | (refine wp_ix (by (first | assumption | (apply J.drew; assumption) | (apply J.drew; apply J.drew; assumption) | (apply J.drew; apply J.drew; apply J.drew; assumption) | (apply J.drew; apply J.drew; apply J.drew; apply J.drew; assumption) | (apply J.drew; apply J.drew; apply J.drew; apply J.drew; apply J.drew; assumption))) (by omega) (by omega) ?_) | (refine wp_ld (by (first | assumption | (apply J.drew; assumption) | (apply J.drew; apply J.drew; assumption) | (apply J.drew; apply J.drew; apply J.drew; assumption) | (apply J.drew; apply J.drew; apply J.drew; apply J.drew; assumption) | (apply J.drew; apply J.drew; apply J.drew; apply J.drew; apply J.drew; assumption))) (by omega) (by omega) ?_) | (refine wp_st (by (first | assumption | (apply J.drew; assumption) | (apply J.drew; apply J.drew; assumption) | (apply J.drew; apply J.drew; apply J.drew; assumption) | (apply J.drew; apply J.drew; apply J.drew; apply J.drew; assumption) | (apply J.drew; apply J.drew; apply J.drew; apply J.drew; apply J.drew; assumption))) (by omega) (by omega) fun _ _ => ?_) | (refine wp_less (wp_bind (asB_bool ..) ?_))); (first | (refine wp_ix (by (first | assumption | (apply J.drew; assumption) | (apply J.drew; apply J.drew; assumption) | (apply J.drew; apply J.drew; apply J.drew; assumption) | (apply J.drew; apply J.drew; apply J.drew; apply J.drew; assumption) | (apply J.drew; apply J.drew; apply J.drew; apply J.drew; apply J.drew; assumption))) (by omega) (by omega) ?_) | (refine wp_ld (by (first | assumption | (apply J.drew; assumption) | (apply J.drew; apply J.drew; assumption) | (apply J.drew; apply J.drew; apply J.drew; assumption) | (apply J.drew; apply J.drew; apply J.drew; apply J.drew; assumption) | (apply J.drew; apply J.drew; apply J.drew; apply J.drew; apply J.drew; assumption))) (by omega) (by omega) ?_) | (refine wp_st (by (first | assumption | (apply J.drew; assumption) | (apply J.drew; apply J.drew; assumption) | (apply J.drew; apply J.drew; apply J.drew; assumption) | (apply J.drew; apply J.drew; apply J.drew; apply J.drew; assumption) | (apply J.drew; apply J.drew; apply J.drew; apply J.drew; apply J.drew; assumption))) (by omega) (by omega) fun _ _ => ?_) | (refine wp_less (wp_bind (asB_bool ..) ?_))); (first | (refine wp_ix (by (first | assumption | (apply J.drew; assumption) | (apply J.drew; apply J.drew; assumption) | (apply J.drew; apply J.drew; apply J.drew; assumption) | (apply J.drew; apply J.drew; apply J.drew; apply J.drew; assumption) | (apply J.drew; apply J.drew; apply J.drew; apply J.drew; apply J.drew; assumption))) (by omega) (by omega) ?_) | (refine wp_ld (by (first | assumption | (apply J.drew; assumption) | (apply J.drew; apply J.drew; assumption) | (apply J.drew; apply J.drew; apply J.drew; assumption) | (apply J.drew; apply J.drew; apply J.drew; apply J.drew; assumption) | (apply J.drew; apply J.drew; apply J.drew; apply J.drew; apply J.drew; assumption))) (by omega) (by omega) ?_) | (refine wp_st (by (first | assumption | (apply J.drew; assumption) | (apply J.drew; apply J.drew; assumption) | (apply J.drew; apply J.drew; apply J.drew; assumption) | (apply J.drew; apply J.drew; apply J.drew; apply J.drew; assumption) | (apply J.drew; apply J.drew; apply J.drew; apply J.drew; apply J.drew; assumption))) (by omega) (by omega) fun _ _ => ?_) | (refine wp_less (wp_bind (asB_bool ..) ?_)))
    refine wp_if (fun _ => ?_) (fun _ => wp_some ⟨_, _, _, rfl, by (first | assumption | (apply J.drew; assumption) | (apply J.drew; apply J.drew; assumption) | (apply J.drew; apply J.drew; apply J.drew; assumption) | (apply J.drew; apply J.drew; apply J.drew; apply J.drew; assumption) | (apply J.drew; apply J.drew; apply J.drew; apply J.drew; apply J.drew; assumption)), b0, .inl ⟨rfl, rfl⟩⟩)
    have c0 : w.drew.cell? ⟨p, 0, none⟩ = some (.int .i64 c) := b0.cell 0
    refine wp_bind rfl (wp_bind c0 (wp_bind (asI_int ..) (wp_bind rfl ?_)))
    have s := b0.st1 (i := 0) (v := .int .i64 (IntKind.i64.wrap (c + 1))) (by simp) rfl
    refine wp_bind s (wp_some ⟨_, _, _, rfl, ?_, b0.set 0 _, .inr ⟨rfl, rfl⟩⟩)
    exact h.drew.other Fr.setCell hn hW
  obtain ⟨⟨v, w'⟩, e, x, y, c', rfl, h1, h2, h3⟩ := H
  exact ⟨x, y, c', w', g89_call e, h1, h2, h3⟩

theorem median87 (h : J q g off W w d) {p : Nat} {c : Int} (hb : Blk w p [.int .i64 c] 3) (hn : p ∉ blkOf q) (hW : W.heap.size ≤ p) {i j k : Int} (hi : 0 ≤ i ∧ i < (q.2.1 : Int)) (hj : 0 ≤ j ∧ j < (q.2.1 : Int)) (hk : 0 ≤ k ∧ k < (q.2.1 : Int)) :
    ∃ (x c' : Int) (w' : World), callF Try.prog 87 #[.slice q.1 q.2.1 q.2.2, .int .i64 i, .int .i64 j, .int .i64 k, .pointer (some ⟨p, 0, none⟩)] w = some (.int .i64 x, w') ∧ J q g off W w' d ∧ Blk w' p [.int .i64 c'] 3 ∧ (x = i ∨ x = j ∨ x = k) := by
  obtain ⟨x1, y1, c1, w1, e1, h1, b1, o1⟩ := order89 h hb hn hW hi hj
  obtain ⟨x2, y2, c2, w2, e2, h2, b2, o2⟩ := order89 h1 b1 hn hW (i := y1) (j := k) (by rcases o1 with ⟨_, rfl⟩ | ⟨_, rfl⟩ <;> assumption) hk
  obtain ⟨x3, y3, c3, w3, e3, h3, b3, o3⟩ := order89 h2 b2 hn hW (i := x1) (j := x2) (by rcases o1 with ⟨rfl, _⟩ | ⟨rfl, _⟩ <;> assumption) (by
    rcases o2 with ⟨rfl, _⟩ | ⟨rfl, _⟩
    · rcases o1 with ⟨_, rfl⟩ | ⟨_, rfl⟩ <;> assumption
    · assumption)
  refine ⟨y3, c3, w3, g87_call ?_, h3, b3, by omega⟩
  unfold g87
  simp only [e1, e2, e3, obs, asP_pointer, asB_bool, asI_int, asS_string, asSl_slice, asM_map, asTup0, asTup1, asTup2, asTup3, asTup4, asTup5, asTup6, asTup7, asTup8, asTup9, asAgg2, asAgg3, asAgg4, asAgg5, asAgg6, asAgg7, asAgg8, asAgg9, asAgg12, getD0, getD1, getD2, getD3, getD4, getD5, getD6, getD7, getD8, getD9, getD10, getD11, getD12, getD13, getD14, getD15, getD16, getD17, getD18, getD19, Bool.not_true, Bool.not_false, Bool.false_eq_true, Bool.true_eq_false, ↓reduceIte, decide_true, decide_false, Option.isNone_some, Option.isNone_none, Option.isSome_some, Option.isSome_none, beq_self_eq_true, bne_self_eq_false, Bool.and_true, Bool.true_and, Bool.and_false, Bool.false_and, not_true_eq_false, not_false_eq_true]

theorem medAdj86 (h : J q g off W w d) {p : Nat} {c : Int} (hb : Blk w p [.int .i64 c] 3) (hn : p ∉ blkOf q) (hW : W.heap.size ≤ p) {i : Int} (hi : 1 ≤ i ∧ i + 1 < (q.2.1 : Int)) :
    ∃ (x c' : Int) (w' : World), callF Try.prog 86 #[.slice q.1 q.2.1 q.2.2, .int .i64 i, .pointer (some ⟨p, 0, none⟩)] w = some (.int .i64 x, w') ∧ J q g off W w' d ∧ Blk w' p [.int .i64 c'] 3 ∧ i - 1 ≤ x ∧ x ≤ i + 1 := by
  have hle := h.le
  obtain ⟨x, c', w', e, h1, b1, o⟩ := median87 h hb hn hW (i := i - 1) (j := i) (k := i + 1) (by omega) (by omega) (by omega)
  refine ⟨x, c', w', g86_call ?_, h1, b1, by omega⟩
  unfold g86
  rw [wrap_i64 (by omega) (by omega), wrap_i64 (by omega) (by omega)]
  simp only [e, obs, asP_pointer, asB_bool, asI_int, asS_string, asSl_slice, asM_map, asTup0, asTup1, asTup2, asTup3, asTup4, asTup5, asTup6, asTup7, asTup8, asTup9, asAgg2, asAgg3, asAgg4, asAgg5, asAgg6, asAgg7, asAgg8, asAgg9, asAgg12, getD0, getD1, getD2, getD3, getD4, getD5, getD6, getD7, getD8, getD9, getD10, getD11, getD12, getD13, getD14, getD15, getD16, getD17, getD18, getD19, Bool.not_true, Bool.not_false, Bool.false_eq_true, Bool.true_eq_false, ↓reduceIte, decide_true, decide_false, Option.isNone_some, Option.isNone_none, Option.isSome_some, Option.isSome_none, beq_self_eq_true, bne_self_eq_false, Bool.and_true, Bool.true_and, Bool.and_false, Bool.false_and, not_true_eq_false, not_false_eq_true]

theorem pivot74 (h : J q g off W w d) {a b : Int} (h0 : 0 ≤ a) (hab : a < b) (hb : b ≤ (q.2.1 : Int)) :
    ∃ (x c : Int) (w' : World), callF Try.prog 74 #[.slice q.1 q.2.1 q.2.2, .int .i64 a, .int .i64 b] w = some (.tuple #[.int .i64 x, .int .i64 c], w') ∧ J q g off W w' d ∧ a ≤ x ∧ x < b := by
  have hle := h.le
  have fa : Fr [] w (w.alloc (.cells #[.int .i64 0] 3)) := Fr.alloc _
  have ba : Blk (w.alloc (.cells #[.int .i64 0] 3)) w.heap.size [.int .i64 0] 3 := Blk.new w [.int .i64 0] 3
  obtain ⟨w1, hw1⟩ : ∃ w1, w.alloc (.cells #[.int .i64 0] 3) = w1 := ⟨_, rfl⟩
  rw [hw1] at fa ba
  have hW := h.fr.size
  have hn := h.notnew
  have h1 := h.aside fa
  have j1 : ∀ (x : Int) (y : World) (c : Int), J q g off W y d → Blk y w.heap.size [.int .i64 c] 3 → ∃ c', g74_j1 w x y = some (.tuple #[.int .i64 x, .int .i64 c'], y) := by
    intro x y c hy hb
    have c0 : y.cell? ⟨w.heap.size, 0, none⟩ = some (.int .i64 c) := hb.cell 0
    unfold g74_j1
    simp only [c0, obs, asP_pointer, asB_bool, asI_int, asS_string, asSl_slice, asM_map, asTup0, asTup1, asTup2, asTup3, asTup4, asTup5, asTup6, asTup7, asTup8, asTup9, asAgg2, asAgg3, asAgg4, asAgg5, asAgg6, asAgg7, asAgg8, asAgg9, asAgg12, getD0, getD1, getD2, getD3, getD4, getD5, getD6, getD7, getD8, getD9, getD10, getD11, getD12, getD13, getD14, getD15, getD16, getD17, getD18, getD19, Bool.not_true, Bool.not_false, Bool.false_eq_true, Bool.true_eq_false, ↓reduceIte, decide_true, decide_false, Option.isNone_some, Option.isNone_none, Option.isSome_some, Option.isSome_none, beq_self_eq_true, bne_self_eq_false, Bool.and_true, Bool.true_and, Bool.and_false, Bool.false_and, not_true_eq_false, not_false_eq_true]
    split
    · exact ⟨_, rfl⟩
    · split
      · exact ⟨_, rfl⟩
      · exact ⟨_, rfl⟩
  have j2 : ∀ (x y z : Int) (u : World) (c : Int), J q g off W u d → Blk u w.heap.size [.int .i64 c] 3 → (a ≤ x ∧ x < b) → (a ≤ y ∧ y < b) → (a ≤ z ∧ z < b) → ∃ (r c' : Int) (u' : World), g74_j2 q w x y z u = some (.tuple #[.int .i64 r, .int .i64 c'], u') ∧ J q g off W u' d ∧ a ≤ r ∧ r < b := by
    intro x y z u c hu hb2 hx hy hz
    obtain ⟨r, c1, u1, e, k1, b1, o⟩ := median87 hu hb2 hn hW (i := x) (j := y) (k := z) (by omega) (by omega) (by omega)
    obtain ⟨c2, e2⟩ := j1 r u1 c1 k1 b1
    refine ⟨r, c2, u1, ?_, k1, by omega⟩
    unfold g74_j2
    simp only [e, obs, asP_pointer, asB_bool, asI_int, asS_string, asSl_slice, asM_map, asTup0, asTup1, asTup2, asTup3, asTup4, asTup5, asTup6, asTup7, asTup8, asTup9, asAgg2, asAgg3, asAgg4, asAgg5, asAgg6, asAgg7, asAgg8, asAgg9, asAgg12, getD0, getD1, getD2, getD3, getD4, getD5, getD6, getD7, getD8, getD9, getD10, getD11, getD12, getD13, getD14, getD15, getD16, getD17, getD18, getD19, Bool.not_true, Bool.not_false, Bool.false_eq_true, Bool.true_eq_false, ↓reduceIte, decide_true, decide_false, Option.isNone_some, Option.isNone_none, Option.isSome_some, Option.isSome_none, beq_self_eq_true, bne_self_eq_false, Bool.and_true, Bool.true_and, Bool.and_false, Bool.false_and, not_true_eq_false, not_false_eq_true]
    exact e2
  have H : ∃ (x c : Int) (w' : World), g74 q a b w = some (.tuple #[.int .i64 x, .int .i64 c], w') ∧ J q g off W w' d ∧ a ≤ x ∧ x < b := by
    unfold g74
    rw [hw1]
    simp (disch := omega) only [wrap_i64, Int.tdiv_eq_ediv_of_nonneg]
    by_cases k8 : b - a ≥ 8
    · rw [if_pos (by simp; omega)]
      by_cases k50 : b - a ≥ 50
      · rw [if_pos (by simp; omega)]
        obtain ⟨x1, c1, u1, e1, i1, b1, o1⟩ := medAdj86 h1 ba hn hW (i := a + (b - a) / 4 * 1) (by omega)
        obtain ⟨x2, c2, u2, e2, i2, b2, o2⟩ := medAdj86 i1 b1 hn hW (i := a + (b - a) / 4 * 2) (by omega)
        obtain ⟨x3, c3, u3, e3, i3, b3, o3⟩ := medAdj86 i2 b2 hn hW (i := a + (b - a) / 4 * 3) (by omega)
        obtain ⟨r, c4, u4, e4, i4, o4⟩ := j2 x1 x2 x3 u3 c3 i3 b3 (by omega) (by omega) (by omega)
        refine ⟨r, c4, u4, ?_, i4, o4⟩
        simp only [e1, e2, e3, obs, asP_pointer, asB_bool, asI_int, asS_string, asSl_slice, asM_map, asTup0, asTup1, asTup2, asTup3, asTup4, asTup5, asTup6, asTup7, asTup8, asTup9, asAgg2, asAgg3, asAgg4, asAgg5, asAgg6, asAgg7, asAgg8, asAgg9, asAgg12, getD0, getD1, getD2, getD3, getD4, getD5, getD6, getD7, getD8, getD9, getD10, getD11, getD12, getD13, getD14, getD15, getD16, getD17, getD18, getD19, Bool.not_true, Bool.not_false, Bool.false_eq_true, Bool.true_eq_false, ↓reduceIte, decide_true, decide_false, Option.isNone_some, Option.isNone_none, Option.isSome_some, Option.isSome_none, beq_self_eq_true, bne_self_eq_false, Bool.and_true, Bool.true_and, Bool.and_false, Bool.false_and, not_true_eq_false, not_false_eq_true]
        exact e4
      · rw [if_neg (by simp; omega)]
        exact j2 _ _ _ _ _ h1 ba (by omega) (by omega) (by omega)
    · rw [if_neg (by simp; omega)]
      obtain ⟨c', e⟩ := j1 (a + (b - a) / 4 * 2) w1 0 h1 ba
      exact ⟨_, c', w1, e, h1, by omega, by omega⟩
  obtain ⟨x, c, w', e, r⟩ := H
  exact ⟨x, c, w', g74_call e, r⟩

theorem break73 (h : J q g off W w d) {a b : Nat} (hab : a < b) (hb : b ≤ q.2.1) (hq : q.2.1 < 4294967296) :
    ∃ d' w', callF Try.prog 73 #[.slice q.1 q.2.1 q.2.2, .int .i64 (a : Int), .int .i64 (b : Int)] w = some (.tuple #[], w') ∧ J q g off W w' d' ∧ Sort.PermIn a b d d' := by
  have hle := h.le
  have hW := h.fr.size
  have hn := h.notnew
  by_cases k8 : b - a ≥ 8
  case neg =>
    refine ⟨d, w, g73_call ?_, h, Sort.permIn_refl ..⟩
    unfold g73
    (simp (disch := omega) only [wadd, wadd1, wdbl, wsub, wsub1] at *)
    rw [if_neg (by simp; omega)]
  have fa : Fr [] w (w.alloc (.cells #[.int .u64 0] 126)) := Fr.alloc _
  have ba : Blk (w.alloc (.cells #[.int .u64 0] 126)) w.heap.size [.int .u64 0] 126 := Blk.new w [.int .u64 0] 126
  obtain ⟨w1, hw1⟩ : ∃ w1, w.alloc (.cells #[.int .u64 0] 126) = w1 := ⟨_, rfl⟩
  rw [hw1] at fa ba
  have h1 := h.aside fa
  have s2 := ba.st1 (i := 0) (v := .int .u64 (IntKind.u64.wrap ((b - a : Nat) : Int))) (by simp) rfl
  have b2 := ba.set 0 (.int .u64 (IntKind.u64.wrap ((b - a : Nat) : Int)))
  have f2 : Fr [w.heap.size] w1 (w1.setCell ⟨w.heap.size, 0, none⟩ (.int .u64 (IntKind.u64.wrap ((b - a : Nat) : Int)))) := Fr.setCell
  obtain ⟨w2, hw2⟩ : ∃ w2, w1.setCell ⟨w.heap.size, 0, none⟩ (.int .u64 (IntKind.u64.wrap ((b - a : Nat) : Int))) = w2 := ⟨_, rfl⟩
  rw [hw2] at s2 b2 f2
  have h2 := h1.other f2 hn hW
  obtain ⟨l, hl⟩ : ∃ l : Nat, b - a = l := ⟨_, rfl⟩
  obtain ⟨m, e3, m1, m2⟩ := npow84 w2 (u := l) (by omega) (by omega)
  have ed : IntKind.i64.wrap (Int.tdiv (l : Int) 4) = ((l / 4 : Nat) : Int) := by rw [Int.tdiv_eq_ediv_of_nonneg (by omega), wrap_i64 (by omega) (by omega)]; omega
  have em : IntKind.i64.wrap (((l / 4 : Nat) : Int) * 2) = ((l / 4 * 2 : Nat) : Int) := by rw [wrap_i64 (by omega) (by omega)]; omega
  have hlen : ∀ x d', J q g off W x d' → b ≤ d'.size := fun x d' hx => by rw [hx.size]; exact hb
  obtain ⟨e, t, w', g1, rfl, d', hJ, hp⟩ := loop_wp (b := g73_l4_b (a : Int) (b : Int) w (m : Int) q) (I := fun s x => ∃ (i : Nat) (d' : Array Int), s = (i : Int) ∧ a ≤ i ∧ J q g off W x d' ∧ Sort.PermIn a b d d' ∧ ∃ v, Blk x w.heap.size [.int .u64 v] 126) (Q := fun e s x => e = .exit 0 ∧ ∃ d', J q g off W x d' ∧ Sort.PermIn a b d d') (fun s => ((a : Int) + (l / 4 : Nat) * 2 + 2 - s).toNat)
    (fun s x ⟨i, d', hs, hi, hx, hp, v, hv⟩ => by
      subst hs
      unfold g73_l4_b
      simp (disch := omega) only [wadd, wadd1, wdbl, wsub, wsub1, hl, ed, em]
      refine wp_if (fun c => ?_) (fun c => wp_some (.inr ⟨by simp, rfl, d', hx, hp⟩))
      simp only [decide_eq_true_eq] at c
      obtain ⟨n, y, x1, e5, b5, f5⟩ := next85 hv
      refine wp_bind e5 (wp_bind (asI_int ..) ?_)
      have i5 := hx.other f5 hn hW
      have hu : IntKind.u64.wrap ((m : Int) - 1) = ((m - 1 : Nat) : Int) := by rw [wrap_u64 (by omega) (by omega)]; omega
      rw [hu]
      obtain ⟨o, ho⟩ : ∃ o, (BitVec.ofInt 64 n &&& BitVec.ofInt 64 ((m - 1 : Nat) : Int)).toNat = o := ⟨_, rfl⟩
      have ho2 : o ≤ m - 1 := by
        rw [← ho, BitVec.toNat_and]
        refine Nat.le_trans Nat.and_le_right ?_
        rw [BitVec.toNat_ofInt]
        have : (((m - 1 : Nat) : Int) % (2 ^ 64 : Nat)).toNat = m - 1 := by
          rw [Int.emod_eq_of_lt (by omega) (by omega)]; omega
        omega
      rw [ho]
      have wo : IntKind.i64.wrap (IntKind.u64.wrap (o : Int)) = (o : Int) := by rw [wrap_u64 (by omega) (by omega), wrap_i64 (by omega) (by omega)]
      rw [wo]
      have j0 := i5.refl
      have fin : ∀ (y : World) (k : Nat), a ≤ k → k < b → J q g off x1 y (Sort.swp d' i k) → wp (some (Exit.normal, ((i + 1 : Nat) : Int), y)) (fun r : Exit × Int × World => r.1 = .normal ∧ (∃ (i : Nat) (d' : Array Int), r.2.1 = (i : Int) ∧ a ≤ i ∧ J q g off W r.2.2 d' ∧ Sort.PermIn a b d d' ∧ ∃ v, Blk r.2.2 w.heap.size [.int .u64 v] 126) ∧ ((a : Int) + (l / 4 : Nat) * 2 + 2 - r.2.1).toNat < ((a : Int) + (l / 4 : Nat) * 2 + 2 - i).toNat ∨ r.1 ≠ .normal ∧ r.1 = .exit 0 ∧ ∃ d', J q g off W r.2.2 d' ∧ Sort.PermIn a b d d') := fun y k hk1 hk2 hy =>
        wp_some (.inl ⟨rfl, ⟨i + 1, _, rfl, by omega, i5.trans hy, Sort.permIn_trans _ _ _ _ _ hp (Sort.swp_permIn d' a b i k (by omega) (by omega) hk1 hk2 (hlen _ _ hx)), _, b5.fr hy.fr (by intro c; exact hn c)⟩, by (first | omega | (simp only; omega) | (simp only at *; omega))⟩)
      try (simp (disch := omega) only [wadd, wadd1, wdbl, wsub, wsub1] at *)
      refine wp_if (fun c2 => ?_) (fun c2 => ?_)
      · simp only [decide_eq_true_eq] at c2
        try (simp (disch := omega) only [wadd, wadd1, wdbl, wsub, wsub1] at *)
        refine wp_swap j0.drew (by omega) (by omega) fun y hy => ?_
        exact fin y _ (by omega) (by omega) hy
      · simp only [decide_eq_true_eq] at c2
        try (simp (disch := omega) only [wadd, wadd1, wdbl, wsub, wsub1] at *)
        refine wp_swap j0.drew (by omega) (by omega) fun y hy => ?_
        exact fin y _ (by omega) (by omega) hy)
    (s := ((a + l / 4 * 2 - 1 : Nat) : Int)) (w := w2) ⟨_, d, rfl, by omega, h2, Sort.permIn_refl .., _, b2⟩
  refine ⟨d', w', g73_call ?_, hJ, hp⟩
  unfold g73
  rw [hw1]
  simp (disch := omega) only [wadd, wadd1, wdbl, wsub, wsub1, hl, ed, em]
  rw [if_pos (by simp; omega)]
  rw [hl] at s2
  simp only [s2, e3, obs, asP_pointer, asB_bool, asI_int, asS_string, asSl_slice, asM_map, asTup0, asTup1, asTup2, asTup3, asTup4, asTup5, asTup6, asTup7, asTup8, asTup9, asAgg2, asAgg3, asAgg4, asAgg5, asAgg6, asAgg7, asAgg8, asAgg9, asAgg12, getD0, getD1, getD2, getD3, getD4, getD5, getD6, getD7, getD8, getD9, getD10, getD11, getD12, getD13, getD14, getD15, getD16, getD17, getD18, getD19, Bool.not_true, Bool.not_false, Bool.false_eq_true, Bool.true_eq_false, ↓reduceIte, decide_true, decide_false, Option.isNone_some, Option.isNone_none, Option.isSome_some, Option.isSome_none, beq_self_eq_true, bne_self_eq_false, Bool.and_true, Bool.true_and, Bool.and_false, Bool.false_and, not_true_eq_false, not_false_eq_true]
  rw [g73_l4_x0_of g1, g73_l4_x0]
end
end Go.Proofs.Ytlcojbodcbjkaaa.SQ

namespace Go.Proofs.Ytlcojbodcbjkaaa.SQ
open Go Go.Ev
set_option maxRecDepth 100000
set_option linter.unusedVariables false
set_option linter.unusedSimpArgs false

abbrev RTq := Option (Exit × (Int × Int × Int × Bool × Bool) × World)
noncomputable def tl50 (u0 : ShI) (a b lim p : Int) (x : World) : RTq :=
(callF Try.prog 79 #[.slice u0.1 u0.2.1 u0.2.2, .int .i64 a, .int .i64 b, .int .i64 p] x).bind fun r33 =>
(asTup 2 r33.1).bind fun l34 =>
(asI .i64 (l34.getD 0 undef)).bind fun n35 =>
(asB (l34.getD 1 undef)).bind fun b36 =>
if (decide (((IntKind.i64.wrap (n35 - a)) : Int) < (IntKind.i64.wrap (b - n35)))) = true then
((callF Try.prog 63 #[.slice u0.1 u0.2.1 u0.2.2, .int .i64 a, .int .i64 n35, .int .i64 lim] r33.2).bind fun r37 =>
(asTup 0 r37.1).bind fun _ =>
some (.normal, ((IntKind.i64.wrap (n35 + 1)), b, lim, (decide (((IntKind.i64.wrap (n35 - a)) : Int) ≥ (IntKind.i64.wrap (Int.tdiv (IntKind.i64.wrap (b - a)) 8)))), b36), r37.2))
else
((callF Try.prog 63 #[.slice u0.1 u0.2.1 u0.2.2, .int .i64 (IntKind.i64.wrap (n35 + 1)), .int .i64 b, .int .i64 lim] r33.2).bind fun r38 =>
(asTup 0 r38.1).bind fun _ =>
some (.normal, (a, n35, lim, (decide (((IntKind.i64.wrap (b - n35)) : Int) ≥ (IntKind.i64.wrap (Int.tdiv (IntKind.i64.wrap (b - a)) 8)))), b36), r38.2))
noncomputable def tlE (u0 : ShI) (a b lim : Int) (bal par : Bool) (p : Int) (x : World) : RTq :=
if (decide ((a : Int) > 0)) = true then
((idxA u0.1 u0.2.1 1 (IntKind.i64.wrap (a - 1))).bind fun a17 =>
(World.cell? (World.drew x) a17).bind fun v18 =>
(asI .i64 v18).bind fun s19 =>
(idxA u0.1 u0.2.1 1 p).bind fun a20 =>
(World.cell? (World.drew x) a20).bind fun v21 =>
(asI .i64 v21).bind fun s22 =>
(callF Try.prog 77 #[.int .i64 s19, .int .i64 s22] (World.drew x)).bind fun r23 =>
(asB r23.1).bind fun b24 =>
if (!b24) = true then
((callF Try.prog 78 #[.slice u0.1 u0.2.1 u0.2.2, .int .i64 a, .int .i64 b, .int .i64 p] r23.2).bind fun r25 =>
(asI .i64 r25.1).bind fun n26 =>
some (.normal, (n26, b, lim, bal, par), r25.2))
else tl50 u0 a b lim p r23.2)
else tl50 u0 a b lim p (World.drew x)
noncomputable def tlP (u0 : ShI) (a b lim : Int) (bal par : Bool) (p : Int) (x : World) : RTq :=
((callF Try.prog 76 #[.slice u0.1 u0.2.1 u0.2.2, .int .i64 a, .int .i64 b] x).bind fun r15 =>
(asB r15.1).bind fun b16 =>
if b16 = true then
(some (.ret, (a, b, lim, bal, par), r15.2))
else tlE u0 a b lim bal par p r15.2)
noncomputable def tlR (u0 : ShI) (a b lim : Int) (bal par : Bool) (p : Int) (x : World) : RTq :=
if bal = true then (if par = true then tlP u0 a b lim bal par p x else tlE u0 a b lim bal par p x) else tlE u0 a b lim bal par p x
noncomputable def tlN (u0 : ShI) (a b lim : Int) (bal par : Bool) (p c : Int) (x : World) : RTq :=
if bal = true then (if par = true then (if ((c : Int) == 1) = true then tlP u0 a b lim bal par p x else tlE u0 a b lim bal par p x) else tlE u0 a b lim bal par p x) else tlE u0 a b lim bal par p x
noncomputable def tlV (u0 : ShI) (a b lim : Int) (bal par : Bool) (x : World) : RTq :=
(callF Try.prog 74 #[.slice u0.1 u0.2.1 u0.2.2, .int .i64 a, .int .i64 b] x).bind fun r8 =>
(asTup 2 r8.1).bind fun l9 =>
(asI .i64 (l9.getD 0 undef)).bind fun n10 =>
(asI .i64 (l9.getD 1 undef)).bind fun n11 =>
if ((n11 : Int) == 2) = true then
((callF Try.prog 75 #[.slice u0.1 u0.2.1 u0.2.2, .int .i64 a, .int .i64 b] r8.2).bind fun r13 =>
(asTup 0 r13.1).bind fun _ =>
tlR u0 a b lim bal par (IntKind.i64.wrap ((IntKind.i64.wrap (b - 1)) - (IntKind.i64.wrap (n10 - a)))) r13.2)
else tlN u0 a b lim bal par n10 n11 r8.2
noncomputable def tlW (u0 : ShI) (s2 : Int × Int × Int × Bool × Bool) (w3 : World) : RTq :=
if (decide (((IntKind.i64.wrap (s2.2.1 - s2.1)) : Int) ≤ 12)) = true then
((callF Try.prog 71 #[.slice u0.1 u0.2.1 u0.2.2, .int .i64 s2.1, .int .i64 s2.2.1] w3).bind fun r4 =>
(asTup 0 r4.1).bind fun _ =>
some (.ret, (s2.1, s2.2.1, s2.2.2.1, s2.2.2.2.1, s2.2.2.2.2), r4.2))
else
(if ((s2.2.2.1 : Int) == 0) = true then
((callF Try.prog 72 #[.slice u0.1 u0.2.1 u0.2.2, .int .i64 s2.1, .int .i64 s2.2.1] w3).bind fun r5 =>
(asTup 0 r5.1).bind fun _ =>
some (.ret, (s2.1, s2.2.1, s2.2.2.1, s2.2.2.2.1, s2.2.2.2.2), r5.2))
else
(if (!s2.2.2.2.1) = true then
((callF Try.prog 73 #[.slice u0.1 u0.2.1 u0.2.2, .int .i64 s2.1, .int .i64 s2.2.1] w3).bind fun r7 =>
(asTup 0 r7.1).bind fun _ =>
tlV u0 s2.1 s2.2.1 (IntKind.i64.wrap (s2.2.2.1 - 1)) s2.2.2.2.1 s2.2.2.2.2 r7.2)
else tlV u0 s2.1 s2.2.1 s2.2.2.1 s2.2.2.2.1 s2.2.2.2.2 w3))
theorem g63_l1_flat (u0 : ShI) (s2 : Int × Int × Int × Bool × Bool) (w3 : World) : g63_l1_b u0 s2 w3 = tlW u0 s2 w3 := by kernel_rfl

section
variable {q : ShI} {g off : Nat} {W w : World} {d : Array Int} {β : Type} {f : Value × World → Option β} {Q : β → Prop} {a b p : Nat}
theorem wp_ins (h : J q g off W w d) (ha : a ≤ q.2.1) (hb : b ≤ q.2.1) (hf : ∀ w', J q g off W w' (Sort.insertionSort Sort.ltInt d a b) → wp (f (.tuple #[], w')) Q) : wp ((callF Try.prog 71 #[.slice q.1 q.2.1 q.2.2, .int .i64 (a : Int), .int .i64 (b : Int)] w).bind f) Q := by
  obtain ⟨w', e, h'⟩ := ins71 h ha hb
  exact wp_bind e (hf _ h')
theorem wp_heap (h : J q g off W w d) (hab : a < b) (hb : b ≤ q.2.1) (hf : ∀ w', J q g off W w' (Sort.heapSort Sort.ltInt d a b) → wp (f (.tuple #[], w')) Q) : wp ((callF Try.prog 72 #[.slice q.1 q.2.1 q.2.2, .int .i64 (a : Int), .int .i64 (b : Int)] w).bind f) Q := by
  obtain ⟨w', e, h'⟩ := heap72 h hab hb
  exact wp_bind e (hf _ h')
theorem wp_brk (hn : q.2.1 < 4294967296) (h : J q g off W w d) (hab : a < b) (hb : b ≤ q.2.1) (hf : ∀ w' d', J q g off W w' d' → Sort.PermIn a b d d' → wp (f (.tuple #[], w')) Q) : wp ((callF Try.prog 73 #[.slice q.1 q.2.1 q.2.2, .int .i64 (a : Int), .int .i64 (b : Int)] w).bind f) Q := by
  obtain ⟨d', w', e, h', hp⟩ := break73 h hab hb hn
  exact wp_bind e (hf _ _ h' hp)
theorem wp_rev (h : J q g off W w d) (hab : a < b) (hb : b ≤ q.2.1) (hf : ∀ w', J q g off W w' (Sort.reverseRange d a b) → wp (f (.tuple #[], w')) Q) : wp ((callF Try.prog 75 #[.slice q.1 q.2.1 q.2.2, .int .i64 (a : Int), .int .i64 (b : Int)] w).bind f) Q := by
  obtain ⟨w', e, h'⟩ := rev75 h (a := a) (b := b) (by omega) hb (by omega)
  exact wp_bind e (hf _ h')
theorem wp_pis (h : J q g off W w d) (hab : a < b) (hb : b ≤ q.2.1) (hf : ∀ w', J q g off W w' (Sort.partialInsertionSort Sort.ltInt d a b).1 → wp (f (.bool (Sort.partialInsertionSort Sort.ltInt d a b).2, w')) Q) : wp ((callF Try.prog 76 #[.slice q.1 q.2.1 q.2.2, .int .i64 (a : Int), .int .i64 (b : Int)] w).bind f) Q := by
  obtain ⟨w', e, h'⟩ := partial76 h hab hb
  exact wp_bind e (hf _ h')
theorem wp_piv (h : J q g off W w d) (hab : a < b) (hb : b ≤ q.2.1) (hf : ∀ (x : Nat) (c : Int) w', J q g off W w' d → a ≤ x → x < b → wp (f (.tuple #[.int .i64 (x : Int), .int .i64 c], w')) Q) : wp ((callF Try.prog 74 #[.slice q.1 q.2.1 q.2.2, .int .i64 (a : Int), .int .i64 (b : Int)] w).bind f) Q := by
  obtain ⟨x, c, w', e, h', h1, h2⟩ := pivot74 h (a := (a : Int)) (b := (b : Int)) (by omega) (by omega) (by omega)
  obtain ⟨x, rfl⟩ : ∃ y : Nat, x = (y : Int) := ⟨x.toNat, by omega⟩
  exact wp_bind e (hf _ _ _ h' (by omega) (by omega))
theorem wp_peq (h : J q g off W w d) (hab : a < b) (hb : b ≤ q.2.1) (hp1 : a ≤ p) (hp2 : p < b) (hf : ∀ w', J q g off W w' (Sort.partitionEqual Sort.ltInt d a b p).2 → wp (f (.int .i64 ((Sort.partitionEqual Sort.ltInt d a b p).1 : Int), w')) Q) : wp ((callF Try.prog 78 #[.slice q.1 q.2.1 q.2.2, .int .i64 (a : Int), .int .i64 (b : Int), .int .i64 (p : Int)] w).bind f) Q := by
  obtain ⟨w', e, h'⟩ := partEq78 h hab hb ⟨hp1, hp2⟩
  exact wp_bind e (hf _ h')
theorem wp_par (h : J q g off W w d) (hab : a < b) (hb : b ≤ q.2.1) (hp1 : a ≤ p) (hp2 : p < b) (hf : ∀ w', J q g off W w' (Sort.partition Sort.ltInt d a b p).2.2 → wp (f (.tuple #[.int .i64 ((Sort.partition Sort.ltInt d a b p).1 : Int), .bool (Sort.partition Sort.ltInt d a b p).2.1], w')) Q) : wp ((callF Try.prog 79 #[.slice q.1 q.2.1 q.2.2, .int .i64 (a : Int), .int .i64 (b : Int), .int .i64 (p : Int)] w).bind f) Q := by
  obtain ⟨w', e, h'⟩ := part79 h hab hb ⟨hp1, hp2⟩
  exact wp_bind e (hf _ h')
end

/-- a stretch is in order to be sorted: whatever sorted rearrangement of it comes back, the whole is done -/
structure Ok (q : ShI) (F : Array Int → Prop) (a b : Nat) (d : Array Int) : Prop where
  le : a ≤ b
  lt : b ≤ q.2.1
  sz : d.size = q.2.1
  below : Sort.Below Sort.ltInt a b d
  fin : ∀ R, Sort.PermIn a b d R → Sort.SortedIn Sort.ltInt a b R → F R
theorem swo : Sort.SWO Sort.ltInt := Sort.swo_ltInt
theorem Ok.perm {q : ShI} {F : Array Int → Prop} {a b : Nat} {d d' : Array Int} (h : Ok q F a b d) (hp : Sort.PermIn a b d d') : Ok q F a b d' :=
  ⟨h.le, h.lt, by rw [hp.1, h.sz], h.below.perm (by rw [h.sz]; exact h.lt) hp, fun R h1 h2 => h.fin R (Sort.permIn_trans _ _ _ _ _ hp h1) h2⟩

section
variable {q : ShI} {g off : Nat} {W : World} {F : Array Int → Prop}
/-- what a round of the sort comes to -/
def RQ (q : ShI) (g off : Nat) (W : World) (F : Array Int → Prop) (a b : Nat) (r : Exit × (Int × Int × Int × Bool × Bool) × World) : Prop :=
  r.1 = .normal ∧ (∃ (x y : Nat) (d : Array Int), r.2.1.1 = (x : Int) ∧ r.2.1.2.1 = (y : Int) ∧ Ok q F x y d ∧ J q g off W r.2.2 d) ∧ (r.2.1.2.1 - r.2.1.1).toNat < ((b : Int) - (a : Int)).toNat ∨ r.1 ≠ .normal ∧ r.1 = .ret ∧ ∃ d, J q g off W r.2.2 d ∧ F d
theorem rq_n {a b x y : Nat} {l : Int} {f f' : Bool} {w : World} {d : Array Int} (h1 : Ok q F x y d) (h4 : y - x < b - a) (h : J q g off W w d) : wp (some (Exit.normal, ((x : Int), (y : Int), l, f, f'), w)) (RQ q g off W F a b) :=
  wp_some (.inl ⟨rfl, ⟨x, y, d, rfl, rfl, h1, h⟩, by have := h1.le; simp only; omega⟩)
theorem rq_r {a b : Nat} {s : Int × Int × Int × Bool × Bool} {w : World} {d : Array Int} (h : J q g off W w d) (hF : F d) : wp (some (Exit.ret, s, w)) (RQ q g off W F a b) := wp_some (.inr ⟨by simp, rfl, d, h, hF⟩)

/-- the sort of a shorter stretch -/
def Rec (q : ShI) (g off : Nat) (n : Nat) : Prop := ∀ {W w : World} {d : Array Int} (_ : J q g off W w d) {a b : Nat} {lim : Int}, a ≤ b → b ≤ q.2.1 → b - a < n → Sort.Below Sort.ltInt a b d →
    ∃ d' w', callF Try.prog 63 #[.slice q.1 q.2.1 q.2.2, .int .i64 (a : Int), .int .i64 (b : Int), .int .i64 lim] w = some (.tuple #[], w') ∧ J q g off W w' d' ∧ Sort.PermIn a b d d' ∧ Sort.SortedIn Sort.ltInt a b d'
theorem wp_rec {n : Nat} (hr : Rec q g off n) {β : Type} {f : Value × World → Option β} {Q : β → Prop} {x : World} {d : Array Int} {a b : Nat} {l : Int} (hx : J q g off W x d) (h2 : a ≤ b) (h3 : b ≤ q.2.1) (h4 : b - a < n) (hB : Sort.Below Sort.ltInt a b d) (hf : ∀ d' w', J q g off W w' d' → Sort.PermIn a b d d' → Sort.SortedIn Sort.ltInt a b d' → wp (f (.tuple #[], w')) Q) :
    wp ((callF Try.prog 63 #[.slice q.1 q.2.1 q.2.2, .int .i64 (a : Int), .int .i64 (b : Int), .int .i64 l] x).bind f) Q := by
  obtain ⟨d', w', e, h', hp, hs⟩ := hr hx h2 h3 h4 hB (lim := l)
  exact wp_bind e (hf _ _ h' hp hs)

variable {n : Nat} {a b p : Nat} {d : Array Int}
theorem tl50_ok (hr : Rec q g off n) (ok : Ok q F a b d) (h2 : a < b) (h5 : b - a ≤ n) {lim : Int} (hp1 : a ≤ p) (hp2 : p < b) {x : World} (hx : J q g off W x d) : wp (tl50 q a b lim p x) (RQ q g off W F a b) := by
  have hle := hx.le
  have hlt := ok.lt
  have hsz := ok.sz
  unfold tl50
  refine wp_par hx h2 ok.lt hp1 hp2 fun w1 hw1 => wp_bind (asTup2 ..) (wp_bind (asI_int ..) (wp_bind (asB_bool ..) ?_))
  obtain ⟨mid, ap, d4, e⟩ : ∃ mid ap d4, Sort.partition Sort.ltInt d a b p = (mid, ap, d4) := ⟨_, _, _, rfl⟩
  obtain ⟨g1, g2, hs4, hBa, hBr, hleft, hright⟩ := Sort.round_part swo (Sort.partition_holds Sort.ltInt) hp1 hp2 (by omega) ok.below e
  rw [e] at hw1 ⊢
  simp only at hw1 ⊢
  rw [wadd1 (by omega)]
  refine wp_if (fun _ => ?_) (fun _ => ?_)
  · refine wp_rec hr hw1 g1 (by omega) (by omega) hBa fun L w2 hw2 l1 l2 => wp_bind asTup0 ?_
    obtain ⟨b1, b2⟩ := hleft L l1 l2
    exact rq_n ⟨by omega, hlt, by rw [l1.1, hs4, hsz], b1, fun R r1 r2 => by obtain ⟨k1, k2⟩ := b2 R r1 r2; exact ok.fin R k1 k2⟩ (by omega) hw2
  · refine wp_rec hr hw1 (by omega) (by omega) (by omega) hBr fun L w2 hw2 l1 l2 => wp_bind asTup0 ?_
    obtain ⟨b1, b2⟩ := hright L l1 l2
    exact rq_n ⟨g1, by omega, by rw [l1.1, hs4, hsz], b1, fun R r1 r2 => by obtain ⟨k1, k2⟩ := b2 R r1 r2; exact ok.fin R k1 k2⟩ (by omega) hw2
theorem tlE_ok (hr : Rec q g off n) (ok : Ok q F a b d) (h2 : a < b) (h5 : b - a ≤ n) {lim : Int} {f f' : Bool} (hp1 : a ≤ p) (hp2 : p < b) {x : World} (hx : J q g off W x d) : wp (tlE q a b lim f f' p x) (RQ q g off W F a b) := by
  have hle := hx.le
  have hlt := ok.lt
  have hsz := ok.sz
  unfold tlE
  refine wp_if (fun c => ?_) (fun _ => tl50_ok hr ok h2 h5 hp1 hp2 hx.drew)
  simp only [decide_eq_true_eq] at c
  rw [wsub1 (by omega) (by omega)]
  (refine wp_lt (by (first | assumption | (apply J.drew; assumption) | (apply J.drew; apply J.drew; assumption) | (apply J.drew; apply J.drew; apply J.drew; assumption) | (apply J.drew; apply J.drew; apply J.drew; apply J.drew; assumption) | (apply J.drew; apply J.drew; apply J.drew; apply J.drew; apply J.drew; assumption))) (by omega) (by omega) (wp_bind (asB_bool ..) ?_))
  refine wp_if (fun c2 => ?_) (fun _ => tl50_ok hr ok h2 h5 hp1 hp2 (by (first | assumption | (apply J.drew; assumption) | (apply J.drew; apply J.drew; assumption) | (apply J.drew; apply J.drew; apply J.drew; assumption) | (apply J.drew; apply J.drew; apply J.drew; apply J.drew; assumption) | (apply J.drew; apply J.drew; apply J.drew; apply J.drew; apply J.drew; assumption))))
  refine wp_peq (W := W) (g := g) (off := off) (d := d) (by (first | assumption | (apply J.drew; assumption) | (apply J.drew; apply J.drew; assumption) | (apply J.drew; apply J.drew; apply J.drew; assumption) | (apply J.drew; apply J.drew; apply J.drew; apply J.drew; assumption) | (apply J.drew; apply J.drew; apply J.drew; apply J.drew; apply J.drew; assumption))) h2 hlt hp1 hp2 fun w1 hw1 => wp_bind (asI_int ..) ?_
  obtain ⟨mid, d4, e⟩ : ∃ mid d4, Sort.partitionEqual Sort.ltInt d a b p = (mid, d4) := ⟨_, _, rfl⟩
  obtain ⟨g1, g2, hs4, hB4, hfin⟩ := Sort.round_eq swo (Sort.partitionEqual_holds Sort.ltInt) (by omega) hp1 hp2 (by omega) ok.below (by simpa using c2) e
  rw [e] at hw1 ⊢
  simp only at hw1 ⊢
  exact rq_n ⟨g2, hlt, by omega, hB4, fun R r1 r2 => by obtain ⟨k1, k2⟩ := hfin R r1 r2; exact ok.fin R k1 k2⟩ (by omega) hw1
theorem tlP_ok (hr : Rec q g off n) (ok : Ok q F a b d) (h2 : a < b) (h5 : b - a ≤ n) {lim : Int} {f f' : Bool} (hp1 : a ≤ p) (hp2 : p < b) {x : World} (hx : J q g off W x d) : wp (tlP q a b lim f f' p x) (RQ q g off W F a b) := by
  have hlt := ok.lt
  have hsz := ok.sz
  unfold tlP
  refine wp_pis hx h2 hlt fun w1 hw1 => wp_bind (asB_bool _) ?_
  have s := Sort.partialInsertionSort_holds (lt := Sort.ltInt) swo d a b h2 (by omega) ok.below
  refine wp_if (fun c => rq_r hw1 (ok.fin _ s.1 (s.2 c))) (fun _ => tlE_ok hr (ok.perm s.1) h2 h5 hp1 hp2 hw1)
theorem tlR_ok (hr : Rec q g off n) (ok : Ok q F a b d) (h2 : a < b) (h5 : b - a ≤ n) {lim : Int} {f f' : Bool} (hp1 : a ≤ p) (hp2 : p < b) {x : World} (hx : J q g off W x d) : wp (tlR q a b lim f f' p x) (RQ q g off W F a b) := by
  have E := tlE_ok hr ok h2 h5 (lim := lim) (f := f) (f' := f') hp1 hp2 hx
  unfold tlR
  exact wp_if (fun _ => wp_if (fun _ => tlP_ok hr ok h2 h5 hp1 hp2 hx) (fun _ => E)) (fun _ => E)
theorem tlN_ok (hr : Rec q g off n) (ok : Ok q F a b d) (h2 : a < b) (h5 : b - a ≤ n) {lim c : Int} {f f' : Bool} (hp1 : a ≤ p) (hp2 : p < b) {x : World} (hx : J q g off W x d) : wp (tlN q a b lim f f' p c x) (RQ q g off W F a b) := by
  have E := tlE_ok hr ok h2 h5 (lim := lim) (f := f) (f' := f') hp1 hp2 hx
  unfold tlN
  exact wp_if (fun _ => wp_if (fun _ => wp_if (fun _ => tlP_ok hr ok h2 h5 hp1 hp2 hx) (fun _ => E)) (fun _ => E)) (fun _ => E)
theorem tlV_ok (hr : Rec q g off n) (ok : Ok q F a b d) (h2 : a < b) (h5 : b - a ≤ n) {lim : Int} {f f' : Bool} {x : World} (hx : J q g off W x d) : wp (tlV q a b lim f f' x) (RQ q g off W F a b) := by
  have hle := hx.le
  have hlt := ok.lt
  have hsz := ok.sz
  unfold tlV
  refine wp_piv hx h2 hlt fun y c w1 hw1 hy1 hy2 => wp_bind (asTup2 ..) (wp_bind (asI_int ..) (wp_bind (asI_int ..) ?_))
  refine wp_if (fun _ => ?_) (fun _ => tlN_ok hr ok h2 h5 hy1 hy2 hw1)
  refine wp_rev hw1 h2 hlt fun w2 hw2 => wp_bind asTup0 ?_
  rw [wsub1 (by omega) (by omega), wsub (by omega) (by omega), wsub (by omega) (by omega)]
  exact tlR_ok hr (ok.perm (Sort.reverseRange_holds d a b (by omega) (by omega))) h2 h5 (by omega) (by omega) hw2

theorem pdq63 (hn : q.2.1 < 4294967296) (n : Nat) : Rec q g off n := by
  induction n with
  | zero => intro W w d h a b lim hab hb hd; omega
  | succ n hr =>
    intro W w d h a b lim hab hb hd hB
    have hle := h.le
    obtain ⟨e, t, w', g1, rfl, R, hJ, hR⟩ := loop_wp (b := g63_l1_b q) (I := fun s x => ∃ (a' b' : Nat) (d' : Array Int), s.1 = (a' : Int) ∧ s.2.1 = (b' : Int) ∧ b' - a' ≤ b - a ∧ Ok q (fun R => Sort.PermIn a b d R ∧ Sort.SortedIn Sort.ltInt a b R) a' b' d' ∧ J q g off W x d') (Q := fun e s x => e = .ret ∧ ∃ R, J q g off W x R ∧ Sort.PermIn a b d R ∧ Sort.SortedIn Sort.ltInt a b R) (fun s => (s.2.1 - s.1).toNat)
      (fun s x ⟨a', b', d', hs1, hs2, hs3, ok, hx⟩ => by
        obtain ⟨x1, x2, l', bal, par⟩ := s
        simp only at hs1 hs2
        subst hs1 hs2
        rw [g63_l1_flat]
        have hlt := ok.lt
        have hab' := ok.le
        have hsz := ok.sz
        suffices H : wp (tlW q ((a' : Int), (b' : Int), l', bal, par) x) (RQ q g off W (fun R => Sort.PermIn a b d R ∧ Sort.SortedIn Sort.ltInt a b R) a' b') from by
          refine wp_mono H ?_
          rintro r (⟨r1, ⟨x, y, d1, r2, r3, r4, r5⟩, r6⟩ | ⟨r1, r2, d1, r3, r4⟩)
          · exact .inl ⟨r1, ⟨x, y, d1, r2, r3, by rw [r2, r3] at r6; have := r4.le; omega, r4, r5⟩, r6⟩
          · exact .inr ⟨r1, r2, d1, r3, r4⟩
        unfold tlW
        have wba : IntKind.i64.wrap ((b' : Int) - (a' : Int)) = ((b' - a' : Nat) : Int) := wsub (by omega) (by omega)
        refine wp_if (fun c => ?_) (fun c => ?_)
        · refine wp_ins hx (by omega) (by omega) fun w1 hw1 => wp_bind asTup0 (rq_r hw1 ?_)
          have s := Sort.insertionSort_holds (lt := Sort.ltInt) swo d' a' b' hab' (by omega)
          exact ok.fin _ s.1 s.2
        simp only [wba, decide_eq_true_eq] at c
        refine wp_if (fun c2 => ?_) (fun c2 => ?_)
        · refine wp_heap hx (by omega) (by omega) fun w1 hw1 => wp_bind asTup0 (rq_r hw1 ?_)
          have s := Sort.heapSort_holds (lt := Sort.ltInt) swo d' a' b' hab' (by omega)
          exact ok.fin _ s.1 s.2
        refine wp_if (fun c3 => ?_) (fun c3 => ?_)
        · exact wp_brk hn hx (by omega) (by omega) fun w1 d1 hw1 hp => wp_bind asTup0 (tlV_ok hr (ok.perm hp) (by omega) (by omega) hw1)
        · exact tlV_ok hr ok (by omega) (by omega) hx)
      (s := ((a : Int), (b : Int), lim, true, true)) (w := w) ⟨a, b, d, rfl, rfl, Nat.le_refl _, ⟨hab, hb, h.size, hB, fun R h1 h2 => ⟨h1, h2⟩⟩, h⟩
    refine ⟨R, w', g63_call ?_, hJ, hR⟩
    unfold g63
    rw [g63_l1_ret_of g1, g63_l1_ret]
end

/-- slices.Sort of whole numbers: the row is the sorted row of the same numbers afterwards -/
theorem sort33 {q : ShI} {w : World} {zs : List Int} (o : Own w 3 1 q (zs.map (Value.int .i64))) (hn : q.2.1 < 4294967296) :
    ∃ w', callF Try.prog 33 #[.slice q.1 q.2.1 q.2.2] w = some (.tuple #[], w') ∧ Own w' 3 1 q ((zs.mergeSort (fun x y => decide (x ≤ y))).map (Value.int .i64)) ∧ Fr (blkOf q) w w' := by
  have wu : IntKind.u64.wrap (q.2.1 : Int) = (q.2.1 : Int) := wrap_u64 (by omega) (by omega)
  have hl : zs.length = q.2.1 := by have := o.len; simpa using this
  have e1 : ∃ n, callF Try.prog 64 #[.int .u64 (q.2.1 : Int)] w = some (.int .i64 n, w) := by
    by_cases h0 : 1 ≤ q.2.1
    · obtain ⟨m, e, _⟩ := lenS w h0 hn
      exact ⟨m, g64_call (by unfold g64; simp only [e, obs, asP_pointer, asB_bool, asI_int, asS_string, asSl_slice, asM_map, asTup0, asTup1, asTup2, asTup3, asTup4, asTup5, asTup6, asTup7, asTup8, asTup9, asAgg2, asAgg3, asAgg4, asAgg5, asAgg6, asAgg7, asAgg8, asAgg9, asAgg12, getD0, getD1, getD2, getD3, getD4, getD5, getD6, getD7, getD8, getD9, getD10, getD11, getD12, getD13, getD14, getD15, getD16, getD17, getD18, getD19, Bool.not_true, Bool.not_false, Bool.false_eq_true, Bool.true_eq_false, ↓reduceIte, decide_true, decide_false, Option.isNone_some, Option.isNone_none, Option.isSome_some, Option.isSome_none, beq_self_eq_true, bne_self_eq_false, Bool.and_true, Bool.true_and, Bool.and_false, Bool.false_and, not_true_eq_false, not_false_eq_true])⟩
    · have : q.2.1 = 0 := by omega
      rw [this]
      refine ⟨0, g64_call ?_⟩
      have e : callF Try.prog 81 #[.int .u64 ((0 : Nat) : Int)] w = some (.int .i64 0, w) := by
        refine g81_call ?_
        rfl
      unfold g64
      simp only [e, obs, asP_pointer, asB_bool, asI_int, asS_string, asSl_slice, asM_map, asTup0, asTup1, asTup2, asTup3, asTup4, asTup5, asTup6, asTup7, asTup8, asTup9, asAgg2, asAgg3, asAgg4, asAgg5, asAgg6, asAgg7, asAgg8, asAgg9, asAgg12, getD0, getD1, getD2, getD3, getD4, getD5, getD6, getD7, getD8, getD9, getD10, getD11, getD12, getD13, getD14, getD15, getD16, getD17, getD18, getD19, Bool.not_true, Bool.not_false, Bool.false_eq_true, Bool.true_eq_false, ↓reduceIte, decide_true, decide_false, Option.isNone_some, Option.isNone_none, Option.isSome_some, Option.isSome_none, beq_self_eq_true, bne_self_eq_false, Bool.and_true, Bool.true_and, Bool.and_false, Bool.false_and, not_true_eq_false, not_false_eq_true]
  obtain ⟨n, e1⟩ := e1
  have hat : ∃ g off, 0 < q.2.1 → q.1 = some ⟨g, off, none⟩ := by
    by_cases h0 : 0 < q.2.1
    · obtain ⟨g, off, h, _⟩ := o.idx h0
      exact ⟨g, off, fun _ => h⟩
    · exact ⟨0, 0, fun h => absurd h h0⟩
  obtain ⟨g, off, hat⟩ := hat
  have h : J q g off w w zs.toArray := ⟨hat, by simpa using o, Fr.refl _ _, by omega⟩
  obtain ⟨d', w', e2, h2, hp, hs⟩ := pdq63 hn (q.2.1 + 1) h (a := 0) (b := q.2.1) (lim := n) (by omega) (by omega) (by omega) (.inl rfl)
  refine ⟨w', g33_call ?_, ?_, h2.fr⟩
  · unfold g33
    simp only [wu, e1, obs, asP_pointer, asB_bool, asI_int, asS_string, asSl_slice, asM_map, asTup0, asTup1, asTup2, asTup3, asTup4, asTup5, asTup6, asTup7, asTup8, asTup9, asAgg2, asAgg3, asAgg4, asAgg5, asAgg6, asAgg7, asAgg8, asAgg9, asAgg12, getD0, getD1, getD2, getD3, getD4, getD5, getD6, getD7, getD8, getD9, getD10, getD11, getD12, getD13, getD14, getD15, getD16, getD17, getD18, getD19, Bool.not_true, Bool.not_false, Bool.false_eq_true, Bool.true_eq_false, ↓reduceIte, decide_true, decide_false, Option.isNone_some, Option.isNone_none, Option.isSome_some, Option.isSome_none, beq_self_eq_true, bne_self_eq_false, Bool.and_true, Bool.true_and, Bool.and_false, Bool.false_and, not_true_eq_false, not_false_eq_true]
    rw [show (0 : Int) = ((0 : Nat) : Int) from rfl]
    simp only [e2, obs, asP_pointer, asB_bool, asI_int, asS_string, asSl_slice, asM_map, asTup0, asTup1, asTup2, asTup3, asTup4, asTup5, asTup6, asTup7, asTup8, asTup9, asAgg2, asAgg3, asAgg4, asAgg5, asAgg6, asAgg7, asAgg8, asAgg9, asAgg12, getD0, getD1, getD2, getD3, getD4, getD5, getD6, getD7, getD8, getD9, getD10, getD11, getD12, getD13, getD14, getD15, getD16, getD17, getD18, getD19, Bool.not_true, Bool.not_false, Bool.false_eq_true, Bool.true_eq_false, ↓reduceIte, decide_true, decide_false, Option.isNone_some, Option.isNone_none, Option.isSome_some, Option.isSome_none, beq_self_eq_true, bne_self_eq_false, Bool.and_true, Bool.true_and, Bool.and_false, Bool.false_and, not_true_eq_false, not_false_eq_true]
  · have u := Sort.sorted_unique_holds (lt := Sort.ltInt) swo (by intro x y h1 h2; simp [Sort.ltInt] at h1 h2; omega) zs.toArray d' (by simpa [hl] using hp) (by simpa [hl] using hs)
    have o2 := h2.own
    rw [u] at o2
    have e3 : (fun x y : Int => !Sort.ltInt y x) = (fun x y => decide (x ≤ y)) := by funext x y; simp only [Sort.ltInt]; rw [Bool.eq_iff_iff]; simp
    rw [e3] at o2
    exact o2
end Go.Proofs.Ytlcojbodcbjkaaa.SQ
