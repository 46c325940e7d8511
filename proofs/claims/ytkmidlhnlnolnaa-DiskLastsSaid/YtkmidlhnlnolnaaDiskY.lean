/-
  DiskY: lemmas on what Go functions of this seat come to (for whatever arguments, as each says). No condition but those that stand in each lemma.
-/
import Derived.Test.YtkmidlhnlnolnaaDiskX
namespace Go.Proofs.Ytkmidlhnlnolnaa
open Go Go.Ev
set_option maxRecDepth 100000
set_option linter.unusedVariables false
set_option linter.unusedSimpArgs false

section
variable {K V : Type} [DecidableEq K]
theorem set_perm {α : Type} : ∀ {l : List α} {i : Nat} (h : i < l.length) (x : α), (l.set i x).Perm (x :: l.eraseIdx i)
  | [], i, h, x => absurd h (by simp)
  | a :: l, 0, h, x => by simp
  | a :: l, i + 1, h, x => by
    have := set_perm (l := l) (i := i) (by simpa using h) x
    simp only [List.set_cons_succ, List.eraseIdx_cons_succ]
    exact (this.cons a).trans (List.Perm.swap x a _)
theorem get_perm {α : Type} {l : List α} {i : Nat} (h : i < l.length) : l.Perm (l[i] :: l.eraseIdx i) := by
  have := set_perm h l[i]
  rwa [List.set_getElem_self] at this
omit [DecidableEq K] in
theorem kone_inj {A : List (K × V)} (h : kone A) {i j : Nat} (hi : i < A.length) (hj : j < A.length) (e : A[i].1 = A[j].1) : i = j := by
  unfold kone at h
  have hp := List.pairwise_iff_getElem.mp h
  rcases Nat.lt_trichotomy i j with hlt | heq | hgt
  · exact absurd (by rw [List.getElem_map, List.getElem_map]; exact e) (hp i j (by simpa using hi) (by simpa using hj) hlt)
  · exact heq
  · exact absurd (by rw [List.getElem_map, List.getElem_map]; exact e.symm) (hp j i (by simpa using hj) (by simpa using hi) hgt)
omit [DecidableEq K] in
theorem kone_perm {A B : List (K × V)} (h : kone A) (p : A.Perm B) : kone B := (p.map Prod.fst).nodup_iff.mp h
theorem kget_mem {A : List (K × V)} (h : kone A) {n : K} {v : V} (hm : (n, v) ∈ A) : kget A n = some v := by
  rcases kcases A n with ⟨i, hi, h1, h2, _⟩ | ⟨h1, h2, _⟩
  · obtain ⟨j, hj, e⟩ := List.getElem_of_mem hm
    have : i = j := kone_inj h hi hj (by rw [h1, e])
    subst this
    rw [h2, e]
  · obtain ⟨j, hj, e⟩ := List.getElem_of_mem hm
    exact absurd (by rw [e]) (h2 j hj)
theorem mem_of_kget {A : List (K × V)} {n : K} {v : V} (h : kget A n = some v) : (n, v) ∈ A := by
  rcases kcases A n with ⟨i, hi, h1, h2, _⟩ | ⟨h1, _⟩
  · rw [h] at h2
    injection h2 with h2
    have : A[i] = (n, v) := by rw [← h1, h2]
    rw [← this]; exact List.getElem_mem hi
  · rw [h] at h1; cases h1
theorem kget_perm {A B : List (K × V)} (h : kone A) (p : A.Perm B) (n : K) : kget A n = kget B n := by
  cases hb : kget B n with
  | some v => exact kget_mem h (p.mem_iff.mpr (mem_of_kget hb))
  | none =>
    cases ha : kget A n with
    | none => rfl
    | some v => rw [kget_mem (kone_perm h p) (p.mem_iff.mp (mem_of_kget ha))] at hb; cases hb
omit [DecidableEq K] in
theorem rest_perm {A B : List (K × V)} (hA : kone A) (p : A.Perm B) {i j : Nat} (hi : i < A.length) (hj : j < B.length) (e : A[i].1 = B[j].1) : (A.eraseIdx i).Perm (B.eraseIdx j) := by
  have e2 : A[i] = B[j] := by
    have hm : A[i] ∈ B := p.mem_iff.mp (List.getElem_mem hi)
    obtain ⟨k, hk, ek⟩ := List.getElem_of_mem hm
    have : k = j := kone_inj (kone_perm hA p) hk hj (by rw [ek, e])
    subst this; exact ek.symm
  have h := ((get_perm hi).symm.trans p).trans (get_perm hj)
  rw [e2] at h
  exact h.cons_inv
theorem kups_perm {A B : List (K × V)} (hA : kone A) (p : A.Perm B) (n : K) (g : Option V → V) : (kups A n g).Perm (kups B n g) := by
  have hg := kget_perm hA p n
  rcases kcases A n with ⟨i, hi, h1, h2, h3, _⟩ | ⟨h1, _, h3, _⟩ <;> rcases kcases B n with ⟨j, hj, k1, k2, k3, _⟩ | ⟨k1, _, k3, _⟩
  · rw [h3, k3]
    have ev : A[i].2 = B[j].2 := by rw [h2, k2] at hg; injection hg
    rw [ev]
    exact (set_perm hi _).trans (((rest_perm hA p hi hj (by rw [h1, k1])).cons _).trans (set_perm hj _).symm)
  · rw [h2, k1] at hg; cases hg
  · rw [h1, k2] at hg; cases hg
  · rw [h3, k3]; exact p.append_right _
theorem kdel_perm {A B : List (K × V)} (hA : kone A) (p : A.Perm B) (n : K) : (kdel A n).Perm (kdel B n) := by
  have hg := kget_perm hA p n
  rcases kcases A n with ⟨i, hi, h1, h2, _, h4⟩ | ⟨h1, _, _, h4⟩ <;> rcases kcases B n with ⟨j, hj, k1, k2, _, k4⟩ | ⟨k1, _, _, k4⟩
  · rw [h4, k4]; exact rest_perm hA p hi hj (by rw [h1, k1])
  · rw [h2, k1] at hg; cases hg
  · rw [h1, k2] at hg; cases hg
  · rw [h4, k4]; exact p
end

/-- a file's place, and what stands there -/
theorem atN_cases (R : List (ByteArray × FV)) (hR : kone R) (n : ByteArray) : (atN R n = -1 ∧ kget R n = none ∧ (∀ g, kups R n g = R ++ [(n, g none)]) ∧ kdel R n = R) ∨
    ∃ i, ∃ h : i < R.length, atN R n = (i : Int) ∧ R[i].1 = n ∧ kget R n = some R[i].2 ∧ (∀ g, kups R n g = R.set i (n, g (some R[i].2))) ∧ kdel R n = R.eraseIdx i := by
  rcases kcases R n with ⟨i, hi, h1, h2, h3, h4⟩ | ⟨h1, h2, h3, h4⟩
  · right
    refine ⟨i, hi, ?_, h1, h2, h3, h4⟩
    unfold atN
    have : R.findIdx? (fun p => decide (p.1 = n)) = some i := by
      rw [List.findIdx?_eq_some_iff_getElem]
      refine ⟨hi, by simp [h1], fun j hj => ?_⟩
      have : R[j].1 ≠ n := fun e => by
        have := kone_inj hR (i := j) (j := i) (by omega) hi (by rw [e, h1])
        omega
      simp [this]
    rw [this]
  · left
    refine ⟨?_, h1, h3, h4⟩
    unfold atN
    have : R.findIdx? (fun p => decide (p.1 = n)) = none := by
      rw [List.findIdx?_eq_none_iff]
      intro p hp
      obtain ⟨i, hi, rfl⟩ := List.getElem_of_mem hp
      exact decide_eq_false (h2 i hi)
    rw [this]
end Go.Proofs.Ytkmidlhnlnolnaa
