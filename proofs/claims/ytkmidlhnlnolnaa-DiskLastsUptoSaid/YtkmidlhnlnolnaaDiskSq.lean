/-
  DiskSq: lemmas on what Go functions of this seat come to (for whatever arguments, as each says). No condition but those that stand in each lemma.
-/
import Derived.Test.YtkmidlhnlnolnaaDiskSp
namespace Go.Proofs.Ytkmidlhnlnolnaa
open Go Go.Ev
set_option maxRecDepth 100000
set_option linter.unusedVariables false
set_option linter.unusedSimpArgs false

abbrev ShS := Option Addr × Nat × Nat
/-! ## a walk over a row of strings, of which only the length matters -/
def wp {α : Type} (m : Option α) (Q : α → Prop) : Prop := ∃ r, m = some r ∧ Q r
theorem wp_some {α : Type} {r : α} {Q : α → Prop} (h : Q r) : wp (some r) Q := ⟨r, rfl, h⟩
theorem wp_if {α : Type} {c : Prop} [Decidable c] {a b : Option α} {Q : α → Prop} (h1 : c → wp a Q) (h2 : ¬ c → wp b Q) : wp (if c then a else b) Q := by
  by_cases h : c
  · rw [if_pos h]; exact h1 h
  · rw [if_neg h]; exact h2 h
theorem wp_eq {α : Type} {m m' : Option α} {Q : α → Prop} (e : m = m') (h : wp m' Q) : wp m Q := by rw [e]; exact h
theorem wp_bind {α β : Type} {m : Option α} {r : α} {f : α → Option β} {Q : β → Prop} (e : m = some r) (h : wp (f r) Q) : wp (m.bind f) Q := by rw [e]; exact h
theorem wp_mono {α : Type} {m : Option α} {P Q : α → Prop} (h : wp m P) (hq : ∀ r, P r → Q r) : wp m Q := by obtain ⟨r, e, h⟩ := h; exact ⟨r, e, hq r h⟩

structure J (q : ShS) (g off : Nat) (W w : World) : Prop where
  at_ : 0 < q.2.1 → q.1 = some ⟨g, off, none⟩
  ss : ∃ xs : List Value, Own w 9 1 q xs ∧ ∀ v ∈ xs, ∃ s, v = .string s
  fr : Fr (blkOf q) W w
  le : q.2.1 ≤ 1000000000000

section
variable {q : ShS} {g off : Nat} {W w : World}
theorem J.aside (h : J q g off W w) {w' : World} (f : Fr [] w w') : J q g off W w' := by
  obtain ⟨a, ⟨xs, o, hs⟩, fr, l⟩ := h
  exact ⟨a, ⟨xs, o.fr f (by simp), hs⟩, (fr.app f).mono (by intro y hy _; simpa using hy), l⟩
theorem J.drew (h : J q g off W w) : J q g off W w.drew := h.aside (Fr.drew [] w)
theorem J.refl (h : J q g off W w) : J q g off w w := ⟨h.at_, h.ss, Fr.refl _ _, h.le⟩
theorem J.trans (h : J q g off W w) {w' : World} (h' : J q g off w w') : J q g off W w' := ⟨h'.at_, h'.ss, (h.fr.app h'.fr).mono (by intro y hy _; simpa using hy), h.le⟩

theorem J.idx (h : J q g off W w) {i : Int} (h0 : 0 ≤ i) (h1 : i < (q.2.1 : Int)) : idxA q.1 q.2.1 1 i = some ⟨g, off + i.toNat, none⟩ := by
  rw [h.at_ (by omega)]
  unfold idxA
  rw [if_pos (by omega)]
  simp [addr_add]
theorem J.ld (h : J q g off W w) {i : Int} (h0 : 0 ≤ i) (h1 : i < (q.2.1 : Int)) : ∃ s, w.cell? ⟨g, off + i.toNat, none⟩ = some (.string s) := by
  obtain ⟨xs, o, hs⟩ := h.ss
  have hl := o.len
  have e := o.get (h.at_ (by omega)) i.toNat (by omega)
  obtain ⟨s, hv⟩ := hs _ (List.getElem_mem (by omega : i.toNat < xs.length))
  exact ⟨s, by rw [e, hv]⟩
theorem J.st (h : J q g off W w) {i : Int} (h0 : 0 ≤ i) (h1 : i < (q.2.1 : Int)) (s : ByteArray) : ∃ w', st1 w ⟨g, off + i.toNat, none⟩ (.string s) = some w' ∧ J q g off W w' := by
  obtain ⟨xs, o, hs⟩ := h.ss
  have hl := o.len
  obtain ⟨e, o', f⟩ := o.set (h.at_ (by omega)) (k := i.toNat) (by omega) (u := .string s) rfl
  refine ⟨_, e, h.at_, ⟨_, o', fun v hv => ?_⟩, (h.fr.app f).mono (by intro y hy _; simpa using hy), h.le⟩
  rcases List.mem_or_eq_of_mem_set hv with hv | rfl
  · exact hs v hv
  · exact ⟨s, rfl⟩

theorem wp_ix {β : Type} {f : Addr → Option β} {Q : β → Prop} (h : J q g off W w) {i : Int} (h0 : 0 ≤ i) (h1 : i < (q.2.1 : Int)) (hf : wp (f ⟨g, off + i.toNat, none⟩) Q) : wp ((idxA q.1 q.2.1 1 i).bind f) Q := wp_bind (h.idx h0 h1) hf
theorem wp_ld {β : Type} {f : ByteArray → Option β} {Q : β → Prop} (h : J q g off W w) {i : Int} (h0 : 0 ≤ i) (h1 : i < (q.2.1 : Int)) (hf : ∀ s, wp (f s) Q) : wp ((w.cell? ⟨g, off + i.toNat, none⟩).bind fun v => (asS v).bind f) Q := by
  obtain ⟨s, e⟩ := h.ld h0 h1
  exact wp_bind e (wp_bind (asS_string s) (hf s))
theorem wp_st {β : Type} {f : World → Option β} {Q : β → Prop} (h : J q g off W w) {i : Int} (h0 : 0 ≤ i) (h1 : i < (q.2.1 : Int)) {s : ByteArray} (hf : ∀ w', J q g off W w' → wp (f w') Q) : wp ((st1 w ⟨g, off + i.toNat, none⟩ (.string s)).bind f) Q := by
  obtain ⟨w', e, h'⟩ := h.st h0 h1 s
  exact wp_bind e (hf w' h')
end

theorem less48 (a b : ByteArray) (w : World) : ∃ r, callF Try.prog 48 #[.string a, .string b] w = some (.bool r, w) := by
  have e1 : ∀ s : ByteArray, callF Try.prog 58 #[.string s] w = some (.bool false, w) := fun s => g58_call (by unfold g58; simp)
  refine ⟨_, g48_call (r := (.bool (Op.bytesLess a.toList b.toList), w)) ?_⟩
  unfold g48
  simp only [e1, obs, asP_pointer, asB_bool, asI_int, asS_string, asSl_slice, asM_map, asTup0, asTup1, asTup2, asTup3, asTup4, asTup5, asTup6, asTup7, asTup8, asTup9, asAgg2, asAgg3, asAgg4, asAgg5, asAgg6, asAgg7, asAgg8, asAgg9, asAgg12, getD0, getD1, getD2, getD3, getD4, getD5, getD6, getD7, getD8, getD9, getD10, getD11, getD12, getD13, getD14, getD15, getD16, getD17, getD18, getD19, Bool.not_true, Bool.not_false, Bool.false_eq_true, Bool.true_eq_false, ↓reduceIte, decide_true, decide_false, Option.isNone_some, Option.isNone_none, Option.isSome_some, Option.isSome_none, beq_self_eq_true, bne_self_eq_false, Bool.and_true, Bool.true_and, Bool.and_false, Bool.false_and, not_true_eq_false, not_false_eq_true]
theorem wp_less {β : Type} {a b : ByteArray} {w : World} {f : Value × World → Option β} {Q : β → Prop} (hf : ∀ r, wp (f (.bool r, w)) Q) : wp ((callF Try.prog 48 #[.string a, .string b] w).bind f) Q := by
  obtain ⟨r, e⟩ := less48 a b w
  exact wp_bind e (hf r)

macro "jw" : tactic => `(tactic| first | assumption | (apply J.drew; assumption) | (apply J.drew; apply J.drew; assumption) | (apply J.drew; apply J.drew; apply J.drew; assumption) | (apply J.drew; apply J.drew; apply J.drew; apply J.drew; assumption) | (apply J.drew; apply J.drew; apply J.drew; apply J.drew; apply J.drew; assumption))
macro "sw1" : tactic => `(tactic| first
  | (refine wp_ix (by jw) (by omega) (by omega) ?_)
  | (refine wp_ld (by jw) (by omega) (by omega) fun s => ?_)
  | (refine wp_st (by jw) (by omega) (by omega) fun w' hw' => ?_)
  | (refine wp_less fun r => wp_bind (asB_bool r) ?_))

section
variable {q : ShS} {g off : Nat} {W w : World}

/-- insertion -/
theorem ins42_in (h : J q g off W w) {a b i : Int} (h0 : 0 ≤ a) (h1 : a ≤ i) (h2 : i < (q.2.1 : Int)) :
    ∃ w', g42_l4 q a b i i w = some (.normal, i + 1, w') ∧ J q g off W w' := by
  have hle := h.le
  obtain ⟨e, t, w', g1, rfl, hJ⟩ := loopS_meas (b := g42_l4_b a q b i) (I := fun s x => a ≤ s ∧ s ≤ i ∧ J q g off W x) (Q := fun e s x => e = .exit 2 ∧ J q g off W x) (fun s => (s - a).toNat)
    (fun s x ⟨ha, hi, hx⟩ => by
      suffices H : wp (g42_l4_b a q b i s x) (fun r => r.1 = .normal ∧ (a ≤ r.2.1 ∧ r.2.1 ≤ i ∧ J q g off W r.2.2) ∧ (r.2.1 - a).toNat < (s - a).toNat ∨ r.1 ≠ .normal ∧ r.1 = .exit 2 ∧ J q g off W r.2.2) by
        obtain ⟨⟨e, s', x'⟩, h1, h2⟩ := H; exact ⟨e, s', x', h1, h2⟩
      unfold g42_l4_b
      simp (disch := omega) only [wrap_i64]
      refine wp_if (fun c => ?_) (fun c => wp_some (.inr ⟨by simp, rfl, by jw⟩))
      simp only [decide_eq_true_eq] at c
      sw1; sw1; sw1; sw1; sw1
      refine wp_if (fun c => ?_) (fun c => wp_some (.inr ⟨by simp, rfl, by jw⟩))
      sw1; sw1; sw1; sw1; sw1; sw1; sw1; sw1
      exact wp_some (.inl ⟨rfl, ⟨show a ≤ s - 1 by omega, show s - 1 ≤ i by omega, by jw⟩, show (s - 1 - a).toNat < (s - a).toNat by omega⟩))
    (s := i) (w := w) ⟨h1, Int.le_refl _, h⟩
  refine ⟨w', ?_, hJ⟩
  rw [g42_l4_x2_of g1, g42_l4_x2, wrap_i64 (by omega) (by omega)]

theorem loop_wp {σ : Type} {b : σ → World → Option (Exit × σ × World)} {I : σ → World → Prop} {Q : Exit → σ → World → Prop} (m : σ → Nat)
    (step : ∀ s w, I s w → wp (b s w) (fun r => r.1 = .normal ∧ I r.2.1 r.2.2 ∧ m r.2.1 < m s ∨ r.1 ≠ .normal ∧ Q r.1 r.2.1 r.2.2)) {s : σ} {w : World} (h : I s w) :
    ∃ e t w', loopS b s w = some (e, t, w') ∧ Q e t w' :=
  loopS_meas m (fun s w hI => by obtain ⟨⟨e, s', w'⟩, h1, h2⟩ := step s w hI; exact ⟨e, s', w', h1, h2⟩) h
macro "om" : tactic => `(tactic| first | omega | (simp only; omega) | (simp only at *; omega))

theorem ins42 (h : J q g off W w) {a b : Int} (h0 : 0 ≤ a) (ha : a ≤ (q.2.1 : Int)) (hb : b ≤ (q.2.1 : Int)) :
    ∃ w', callF Try.prog 42 #[.slice q.1 q.2.1 q.2.2, .int .i64 a, .int .i64 b] w = some (.tuple #[], w') ∧ J q g off W w' := by
  have hle := h.le
  obtain ⟨e, t, w', g1, rfl, hJ⟩ := loop_wp (b := g42_l1_b b q a) (I := fun s x => a + 1 ≤ s ∧ J q g off W x) (Q := fun e s x => e = .exit 0 ∧ J q g off W x) (fun s => (b - s).toNat)
    (fun s x ⟨hs, hx⟩ => by
      unfold g42_l1_b
      refine wp_if (fun c => ?_) (fun c => wp_some (.inr ⟨by simp, rfl, by jw⟩))
      simp only [decide_eq_true_eq] at c
      obtain ⟨w', e, hw'⟩ := ins42_in hx (b := b) h0 (by omega : a ≤ s) (by omega)
      exact ⟨_, e, .inl ⟨rfl, ⟨by om, by jw⟩, by om⟩⟩)
    (s := a + 1) (w := w) ⟨Int.le_refl _, h⟩
  refine ⟨w', g42_call ?_, hJ⟩
  unfold g42
  rw [wrap_i64 (by omega) (by omega), g42_l1_x0_of g1, g42_l1_x0]

/-- sift down -/
theorem sift53 (h : J q g off W w) {lo hi first : Int} (h0 : 0 ≤ lo) (h1 : lo ≤ 1000000000000) (h2 : 0 ≤ first) (h3 : first + hi ≤ (q.2.1 : Int)) (h4 : first ≤ (q.2.1 : Int)) :
    ∃ w', callF Try.prog 53 #[.slice q.1 q.2.1 q.2.2, .int .i64 lo, .int .i64 hi, .int .i64 first] w = some (.tuple #[], w') ∧ J q g off W w' := by
  have hle := h.le
  obtain ⟨e, t, w', g1, he, hJ⟩ := loop_wp (b := g53_l1_b hi q first) (I := fun s x => 0 ≤ s ∧ s ≤ 1000000000000 ∧ J q g off W x) (Q := fun e s x => (e = .exit 0 ∨ e = .ret) ∧ J q g off W x) (fun s => (hi - s).toNat)
    (fun s x ⟨hs, hs2, hx⟩ => by
      unfold g53_l1_b
      simp (disch := omega) only [wrap_i64]
      refine wp_if (fun c => wp_some (.inr ⟨by simp, .inl rfl, by jw⟩)) (fun c => ?_)
      simp only [decide_eq_true_eq] at c
      try simp (disch := omega) only [wrap_i64]
      refine wp_if (fun c2 => ?_) (fun c2 => ?_)
      · simp only [decide_eq_true_eq] at c2
        sw1; sw1; sw1; sw1; sw1
        refine wp_if (fun _ => ?_) (fun _ => ?_)
        · sw1; sw1; sw1; sw1; sw1
          refine wp_if (fun _ => wp_some (.inr ⟨by simp, .inr rfl, by jw⟩)) (fun _ => ?_)
          sw1; sw1; sw1; sw1; sw1; sw1; sw1; sw1
          exact wp_some (.inl ⟨rfl, ⟨by om, by om, by jw⟩, by om⟩)
        · sw1; sw1; sw1; sw1; sw1
          refine wp_if (fun _ => wp_some (.inr ⟨by simp, .inr rfl, by jw⟩)) (fun _ => ?_)
          sw1; sw1; sw1; sw1; sw1; sw1; sw1; sw1
          exact wp_some (.inl ⟨rfl, ⟨by om, by om, by jw⟩, by om⟩)
      · sw1; sw1; sw1; sw1; sw1
        refine wp_if (fun _ => wp_some (.inr ⟨by simp, .inr rfl, by jw⟩)) (fun _ => ?_)
        sw1; sw1; sw1; sw1; sw1; sw1; sw1; sw1
        exact wp_some (.inl ⟨rfl, ⟨by om, by om, by jw⟩, by om⟩))
    (s := lo) (w := w) ⟨h0, h1, h⟩
  refine ⟨w', g53_call ?_, hJ⟩
  unfold g53
  rcases he with rfl | rfl
  · rw [g53_l1_x0_of g1, g53_l1_x0]
  · rw [g53_l1_ret_of g1, g53_l1_ret]

theorem heap43 (h : J q g off W w) {a b : Int} (h0 : 0 ≤ a) (hab : a < b) (hb : b ≤ (q.2.1 : Int)) :
    ∃ w', callF Try.prog 43 #[.slice q.1 q.2.1 q.2.2, .int .i64 a, .int .i64 b] w = some (.tuple #[], w') ∧ J q g off W w' := by
  have hle := h.le
  have wba : IntKind.i64.wrap (b - a) = b - a := wrap_i64 (by omega) (by omega)
  obtain ⟨e, t, w1, g1, rfl, hJ⟩ := loop_wp (b := g43_l1_b q b a) (I := fun s x => s ≤ 1000000000000 ∧ -1 ≤ s ∧ J q g off W x) (Q := fun e s x => e = .exit 0 ∧ J q g off W x) (fun s => (s + 1).toNat)
    (fun s x ⟨hs, hs2, hx⟩ => by
      unfold g43_l1_b
      refine wp_if (fun c => ?_) (fun c => wp_some (.inr ⟨by simp, rfl, by jw⟩))
      simp only [decide_eq_true_eq] at c
      simp (disch := omega) only [wrap_i64]
      obtain ⟨w', e, hw'⟩ := sift53 hx (lo := s) (hi := b - a) (first := a) (by omega) hs h0 (by omega) (by omega)
      refine wp_bind e (wp_bind asTup0 ?_)
      exact wp_some (.inl ⟨rfl, ⟨by om, by om, by jw⟩, by om⟩))
    (s := (b - a - 1) / 2) (w := w) ⟨by omega, by omega, h⟩
  obtain ⟨e, t2, w2, g2, rfl, hJ2⟩ := loop_wp (b := g43_l10_b q a) (I := fun s x => a + s < (q.2.1 : Int) ∧ -1 ≤ s ∧ J q g off W x) (Q := fun e s x => e = .exit 2 ∧ J q g off W x) (fun s => (s + 1).toNat)
    (fun s x ⟨hs, hs2, hx⟩ => by
      unfold g43_l10_b
      refine wp_if (fun c => ?_) (fun c => wp_some (.inr ⟨by simp, rfl, by jw⟩))
      simp only [decide_eq_true_eq] at c
      simp (disch := omega) only [wrap_i64]
      sw1; sw1; sw1; sw1; sw1; sw1; sw1; sw1
      obtain ⟨w', e, hw'⟩ := sift53 (by assumption) (lo := 0) (hi := s) (first := a) (by omega) (by omega) h0 (by omega) (by omega)
      refine wp_bind e (wp_bind asTup0 ?_)
      exact wp_some (.inl ⟨rfl, ⟨by om, by om, by jw⟩, by om⟩))
    (s := b - a - 1) (w := w1) ⟨by omega, by omega, hJ⟩
  refine ⟨w2, g43_call ?_, hJ2⟩
  unfold g43
  rw [wba, wrap_i64 (show -9223372036854775808 ≤ b - a - 1 by omega) (by omega), Int.tdiv_eq_ediv_of_nonneg (by omega), wrap_i64 (by omega) (by omega), g43_l1_x0_of g1, g43_l1_x0, wba, wrap_i64 (by omega) (by omega), g43_l10_x2_of g2, g43_l10_x2]

theorem rev46 (h : J q g off W w) {a b : Int} (h0 : 0 ≤ a) (hb : b ≤ (q.2.1 : Int)) (ha : a ≤ b) :
    ∃ w', callF Try.prog 46 #[.slice q.1 q.2.1 q.2.2, .int .i64 a, .int .i64 b] w = some (.tuple #[], w') ∧ J q g off W w' := by
  have hle := h.le
  obtain ⟨e, t, w1, g1, rfl, hJ⟩ := loop_wp (b := g46_l1_b q) (I := fun s x => 0 ≤ s.1 ∧ s.2 < (q.2.1 : Int) ∧ J q g off W x) (Q := fun e s x => e = .exit 0 ∧ J q g off W x) (fun s => (s.2 - s.1).toNat)
    (fun s x ⟨hs, hs2, hx⟩ => by
      obtain ⟨i, j⟩ := s
      simp only at hs hs2
      unfold g46_l1_b
      refine wp_if (fun c => ?_) (fun c => wp_some (.inr ⟨by simp, rfl, by jw⟩))
      simp only [decide_eq_true_eq] at c
      simp (disch := omega) only [wrap_i64]
      sw1; sw1; sw1; sw1; sw1; sw1; sw1; sw1
      exact wp_some (.inl ⟨rfl, ⟨by om, by om, by jw⟩, by om⟩))
    (s := (a, b - 1)) (w := w) ⟨h0, by om, h⟩
  refine ⟨w1, g46_call ?_, hJ⟩
  unfold g46
  rw [wrap_i64 (by omega) (by omega), g46_l1_x0_of g1, g46_l1_x0]
end
end Go.Proofs.Ytkmidlhnlnolnaa
