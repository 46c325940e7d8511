/-
  Lb8: lemmas on what Go functions of this seat come to (for whatever arguments, as each says). No condition but those that stand in each lemma.
-/
import Derived.Test.YtjcenfgmpbeldaaLb7
namespace Go.Ev
open Go
set_option linter.unusedSimpArgs false
set_option linter.unusedVariables false
variable {P : Program} {w : World}

theorem Blk.ne {b b' : Nat} {cs cs' : List Value} {T T' : TypeId} (h : Blk w b cs T) (h' : Blk w b' cs' T') (hT : T ≠ T') : b ≠ b' := by
  intro e; subst e
  unfold Blk at h h'
  rw [h] at h'
  injection h' with h'
  injection h' with _ h2 _
  exact hT h2
theorem Blk.notin {b : Nat} {cs : List Value} {T e : TypeId} {n : Nat} {v : Option Addr × Nat × Nat} {xs : List Value} (h : Blk w b cs T) (o : Own w e n v xs) (hT : T ≠ e) : b ∉ blkOf v := by
  intro hm
  rcases o.at_ with ⟨ha, _⟩ | ⟨g, off, cur, ha, hg, _⟩
  · simp [blkOf, ha] at hm
  · simp [blkOf, ha] at hm; subst hm
    unfold Blk at h
    rw [h] at hg
    injection hg with hg
    injection hg with _ h2 _
    exact hT h2
theorem MapAt.ne_blk {K : Type} {enc : K → Value} {r b : Nat} {l : List (K × Value)} {cs : List Value} {T : TypeId} (m : MapAt enc w r l) (h : Blk w b cs T) : r ≠ b := by
  intro e; subst e
  obtain ⟨es, c, h1, _⟩ := m
  unfold Blk at h
  rw [h1] at h; cases h
theorem MapAt.notin {K : Type} {enc : K → Value} {r : Nat} {l : List (K × Value)} {e : TypeId} {n : Nat} {v : Option Addr × Nat × Nat} {xs : List Value} (m : MapAt enc w r l) (o : Own w e n v xs) : r ∉ blkOf v := by
  intro hm
  obtain ⟨es, c, h1, _⟩ := m
  rcases o.at_ with ⟨ha, _⟩ | ⟨g, off, cur, ha, hg, _⟩
  · simp [blkOf, ha] at hm
  · simp [blkOf, ha] at hm; subst hm
    rw [h1] at hg; cases hg

/-! ## rows with keys -/
section
variable {K V : Type} [DecidableEq K]
def kget (A : List (K × V)) (n : K) : Option V := (A.find? fun p => decide (n = p.1)).map (·.2)
def kups : List (K × V) → K → (Option V → V) → List (K × V)
  | [], n, g => [(n, g none)]
  | e :: A, n, g => if n = e.1 then (n, g (some e.2)) :: A else e :: kups A n g
def kdel : List (K × V) → K → List (K × V)
  | [], _ => []
  | e :: A, n => if n = e.1 then A else e :: kdel A n
def kone (A : List (K × V)) : Prop := (A.map (·.1)).Nodup

theorem kget_cons (e : K × V) (A : List (K × V)) (n : K) : kget (e :: A) n = if n = e.1 then some e.2 else kget A n := by
  unfold kget; by_cases h : n = e.1 <;> simp [List.find?_cons, h]
theorem kget_nil (n : K) : kget ([] : List (K × V)) n = none := rfl

theorem kcases : ∀ (A : List (K × V)) (n : K), (∃ i, ∃ h : i < A.length, A[i].1 = n ∧ kget A n = some A[i].2 ∧ (∀ g, kups A n g = A.set i (n, g (some A[i].2))) ∧ kdel A n = A.eraseIdx i) ∨
    (kget A n = none ∧ (∀ i (h : i < A.length), A[i].1 ≠ n) ∧ (∀ g, kups A n g = A ++ [(n, g none)]) ∧ kdel A n = A)
  | [], n => .inr ⟨rfl, fun i h => absurd h (by simp), fun g => rfl, rfl⟩
  | e :: A, n => by
    by_cases hn : n = e.1
    · exact .inl ⟨0, by simp, hn.symm, by simp [kget_cons, hn], fun g => by simp [kups, hn], by simp [kdel, hn]⟩
    · rcases kcases A n with ⟨i, hi, h1, h2, h3, h4⟩ | ⟨h1, h2, h3, h4⟩
      · exact .inl ⟨i + 1, by simp; omega, by simpa using h1, by simp [kget_cons, hn, h2], fun g => by simp [kups, hn, h3], by simp [kdel, hn, h4]⟩
      · refine .inr ⟨by simp [kget_cons, hn, h1], fun i hi => ?_, fun g => by simp [kups, hn, h3], by simp [kdel, hn, h4]⟩
        cases i with
        | zero => exact fun e => hn e.symm
        | succ i => exact h2 i (by simpa using hi)

theorem kget_ups (A : List (K × V)) (n m : K) (g : Option V → V) : kget (kups A n g) m = if m = n then some (g (kget A n)) else kget A m := by
  induction A with
  | nil => simp [kups, kget_cons, kget_nil]
  | cons e A ih =>
    by_cases hn : n = e.1
    · by_cases hm : m = n
      · simp [kups, kget_cons, hn, hm]
      · have : ¬ m = e.1 := fun e' => hm (e'.trans hn.symm)
        simp [kups, kget_cons, hn, hm, this]
    · by_cases hm : m = e.1
      · have : ¬ e.1 = n := fun e' => hn e'.symm
        simp [kups, kget_cons, hn, hm, this]
      · simp only [kups, hn, if_false, kget_cons, hm, ih]

theorem mem_kups {A : List (K × V)} {n x : K} {g : Option V → V} : x ∈ (kups A n g).map (·.1) ↔ x = n ∨ x ∈ A.map (·.1) := by
  induction A with
  | nil => simp [kups]
  | cons e A ih =>
    by_cases hn : n = e.1
    · simp only [kups, hn, if_true, List.map_cons, List.mem_cons]
      constructor
      · rintro (h | h)
        · exact .inl h
        · exact .inr (.inr h)
      · rintro (h | h | h)
        · exact .inl h
        · exact .inl h
        · exact .inr h
    · simp only [kups, hn, if_false, List.map_cons, List.mem_cons, ih]
      constructor <;> (rintro (h | h | h) <;> simp [h])

theorem kone_ups {A : List (K × V)} {n : K} {g : Option V → V} (h : kone A) : kone (kups A n g) := by
  unfold kone at *
  induction A with
  | nil => simp [kups]
  | cons e A ih =>
    simp only [List.map_cons, List.nodup_cons] at h
    by_cases hn : n = e.1
    · simp only [kups, hn, if_true, List.map_cons, List.nodup_cons]; exact h
    · simp only [kups, hn, if_false, List.map_cons, List.nodup_cons]
      refine ⟨fun hm => ?_, ih h.2⟩
      rcases mem_kups.1 hm with e' | e'
      · exact hn e'.symm
      · exact h.1 e'

theorem kget_none {A : List (K × V)} {n : K} : kget A n = none ↔ n ∉ A.map (·.1) := by
  induction A with
  | nil => simp [kget_nil]
  | cons e A ih =>
    rw [kget_cons]
    by_cases hn : n = e.1
    · simp [hn]
    · simp only [hn, if_false, ih, List.map_cons, List.mem_cons, not_or, not_false_eq_true, true_and]

theorem kdel_sub (A : List (K × V)) (n : K) : (kdel A n).Sublist A := by
  induction A with
  | nil => exact List.Sublist.refl _
  | cons e A ih =>
    by_cases hn : n = e.1
    · simp only [kdel, hn, if_true]; exact List.sublist_cons_self _ _
    · simp only [kdel, hn, if_false]; exact ih.cons_cons _

theorem kone_del {A : List (K × V)} {n : K} (h : kone A) : kone (kdel A n) := h.sublist ((kdel_sub A n).map _)

theorem kget_del {A : List (K × V)} (h : kone A) (n m : K) : kget (kdel A n) m = if m = n then none else kget A m := by
  induction A with
  | nil => simp [kdel, kget_nil]
  | cons e A ih =>
    unfold kone at h
    simp only [List.map_cons, List.nodup_cons] at h
    by_cases hn : n = e.1
    · by_cases hm : m = n
      · simp only [kdel, hn, if_true, hm]
        rw [kget_none.2 (by rw [← hn] at h; rw [← hn]; exact h.1)]
      · have : ¬ m = e.1 := fun e' => hm (e'.trans hn.symm)
        simp [kdel, hn, kget_cons, this]
    · by_cases hm : m = e.1
      · have : ¬ e.1 = n := fun e' => hn e'.symm
        simp [kdel, hn, kget_cons, hm, this]
      · simp only [kdel, hn, if_false, kget_cons, hm, ih h.2]
end

/-- assoc by its place -/
theorem assoc_kget {K : Type} [DecidableEq K] (l : List (K × Value)) (k : K) : assoc l k = kget l k := rfl
theorem insA_new {K : Type} [DecidableEq K] {l : List (K × Value)} {k : K} {v : Value} (h : kget l k = none) : insA l k v = l ++ [(k, v)] := by
  induction l with
  | nil => rfl
  | cons e l ih =>
    rw [kget_cons] at h
    by_cases hk : k = e.1
    · simp [hk] at h
    · simp only [hk, if_false] at h
      simp [insA, hk, ih h]
theorem delA_kdel {K : Type} [DecidableEq K] (l : List (K × Value)) (k : K) : delA l k = kdel l k := by
  induction l with
  | nil => rfl
  | cons e l ih => simp only [delA, kdel, ih]

/-- what a structure of the region D did: it wrote within, and took new blocks -/
structure Chg (D : Nat → Prop) (w w' : World) (D' : Nat → Prop) : Prop where
  fr : ∃ S, Fr S w w' ∧ ∀ y ∈ S, D y
  up : ∀ y, D y → D' y
  new : ∀ y, D' y → D y ∨ w.heap.size ≤ y

theorem Chg.refl (D : Nat → Prop) (w : World) : Chg D w w D := ⟨⟨[], Fr.refl _ _, by simp⟩, fun _ => id, fun _ => .inl⟩
theorem Chg.size {D D' : Nat → Prop} {w w' : World} (h : Chg D w w' D') : w.heap.size ≤ w'.heap.size := let ⟨_, f, _⟩ := h.fr; f.size
theorem Chg.trans {D D' D'' : Nat → Prop} {w w' w'' : World} (h : Chg D w w' D') (h' : Chg D' w' w'' D'') (hlt : ∀ y, D y → y < w.heap.size) : Chg D w w'' D'' := by
  have hsz := h.size
  have h1 := h.up
  have h2 := h'.up
  have h3 := h.new
  have h4 := h'.new
  obtain ⟨S, f, hS⟩ := h.fr
  obtain ⟨S', f', hS'⟩ := h'.fr
  refine ⟨⟨(S ++ S').filter (· < w.heap.size), (f.app f').mono (by intro y hy hl; simp only [List.mem_filter, decide_eq_true_eq]; exact ⟨hy, hl⟩), ?_⟩, fun y hy => h2 y (h1 y hy), fun y hy => ?_⟩
  · intro y hy
    simp only [List.mem_filter, List.mem_append, decide_eq_true_eq] at hy
    rcases hy.1 with hh | hh
    · exact hS y hh
    · rcases h3 y (hS' y hh) with hk | hk
      · exact hk
      · omega
  · rcases h4 y hy with hh | hh
    · exact h3 y hh
    · right; omega
theorem Chg.of_fr {D : Nat → Prop} {w w' : World} {S : List Nat} (f : Fr S w w') (hS : ∀ y ∈ S, y < w.heap.size → D y) : Chg D w w' D := by
  refine ⟨⟨S.filter (· < w.heap.size), fr_old f, fun y hy => ?_⟩, fun _ => id, fun _ => .inl⟩
  simp at hy; exact hS y hy.1 hy.2
/-- what is of another region stays -/
theorem Chg.keep {D D' : Nat → Prop} {w w' : World} (h : Chg D w w' D') : ∃ S, Fr S w w' ∧ ∀ y ∈ S, D y := h.fr
end Go.Ev
