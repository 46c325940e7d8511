/-
  Lb6: lemmas on what Go functions of this seat come to (for whatever arguments, as each says). No condition but those that stand in each lemma.
-/
import Derived.Test.YtjcenfgmpbeldaaLb5
namespace Go.Ev
open Go
set_option linter.unusedSimpArgs false
set_option linter.unusedVariables false
variable {P : Program} {w : World}

theorem Fr.app {S T : List Nat} {w w' w'' : World} (h : Fr S w w') (h' : Fr T w' w'') : Fr (S ++ T) w w'' :=
  (h.mono (by intro y hy _; simp [hy])).trans (h'.mono (by intro y hy _; simp [hy]))

/-- a loop with a measure -/
theorem loopS_meas {σ : Type} {b : σ → World → Option (Exit × σ × World)} {I : σ → World → Prop} {Q : Exit → σ → World → Prop} (m : σ → Nat)
    (step : ∀ s w, I s w → ∃ e s' w', b s w = some (e, s', w') ∧ (e = .normal ∧ I s' w' ∧ m s' < m s ∨ e ≠ .normal ∧ Q e s' w')) {s : σ} {w : World} (h : I s w) :
    ∃ e t w', loopS b s w = some (e, t, w') ∧ Q e t w' := by
  suffices H : ∀ d s w, m s < d → I s w → ∃ e t w', loopS b s w = some (e, t, w') ∧ Q e t w' from H (m s + 1) s w (by omega) h
  intro d
  induction d with
  | zero => intro s w hd _; omega
  | succ d ih =>
    intro s w hd h
    obtain ⟨e, s', w', h1, h2⟩ := step s w h
    rcases h2 with ⟨rfl, h2, h3⟩ | ⟨h2, h3⟩
    · obtain ⟨e, t, w2, h4, h5⟩ := ih s' w' (by omega) h2
      exact ⟨e, t, w2, loopS_next h1 h4, h5⟩
    · exact ⟨e, s', w', loopS_out h2 h1, h3⟩

/-- the slice s, of elements of n cells, reads as these cells -/
def SlC (w : World) (n : Nat) (s : Option Addr × Nat × Nat) (cs : List Value) : Prop :=
  cs.length = s.2.1 * n ∧ (0 < cs.length → ∃ b off, s.1 = some ⟨b, off, none⟩ ∧ b < w.heap.size ∧ ∀ i (h : i < cs.length), w.cell? ⟨b, off + i, none⟩ = some cs[i])

theorem SlC.fr {n : Nat} {s : Option Addr × Nat × Nat} {cs : List Value} {S : List Nat} {w w' : World} (h : SlC w n s cs) (hf : Fr S w w') (hS : 0 < cs.length → ∀ x ∈ blkOf s, x ∉ S) : SlC w' n s cs := by
  refine ⟨h.1, fun h0 => ?_⟩
  obtain ⟨b, off, h1, h2, h3⟩ := h.2 h0
  refine ⟨b, off, h1, Nat.lt_of_lt_of_le h2 hf.size, fun i hi => ?_⟩
  rw [cell_of_blk_eq (w := w) (hf.keep b h2 (hS h0 b (by simp [blkOf, h1])))]
  exact h3 i hi

theorem SlC.lt {n : Nat} {s : Option Addr × Nat × Nat} {cs : List Value} (h : SlC w n s cs) (h0 : 0 < cs.length) : ∀ x ∈ blkOf s, x < w.heap.size := by
  obtain ⟨b, off, h1, h2, h3⟩ := h.2 h0
  intro x hx
  simp [blkOf, h1] at hx; subst hx; exact h2

theorem SlC.idx {n : Nat} {s : Option Addr × Nat × Nat} {cs : List Value} (h : SlC w n s cs) (hn : 0 < n) {i : Nat} (hi : i < s.2.1) :
    ∃ b off, idxA s.1 s.2.1 n (i : Int) = some ⟨b, off + i * n, none⟩ ∧ ∀ j (hj : j < n) (hk : i * n + j < cs.length), w.cell? ⟨b, off + i * n + j, none⟩ = some cs[i * n + j] := by
  have hl : 0 < s.2.1 * n := Nat.mul_pos (by omega) hn
  obtain ⟨b, off, h1, h2, h3⟩ := h.2 (by rw [h.1]; exact hl)
  refine ⟨b, off, ?_, fun j hj hk => ?_⟩
  · unfold idxA
    rw [if_pos (by omega), h1]
    simp [addr_add]
  · rw [Nat.add_assoc]; exact h3 _ hk

theorem SlC.get {s : Option Addr × Nat × Nat} {cs : List Value} (h : SlC w 1 s cs) {i : Nat} (hi : i < cs.length) :
    ∃ a, idxA s.1 s.2.1 1 (i : Int) = some a ∧ w.cell? a = some cs[i] := by
  have hl := h.1
  rw [Nat.mul_one] at hl
  obtain ⟨b, off, h1, h2⟩ := h.idx (by omega) (i := i) (by omega)
  refine ⟨_, h1, ?_⟩
  have := h2 0 (by omega) (by omega)
  simpa using this

theorem SlC.mono {n : Nat} {s : Option Addr × Nat × Nat} {cs : List Value} (h : SlC w n s cs) {w' : World} (hw : w.heap.size ≤ w'.heap.size) (hc : ∀ a v, w.cell? a = some v → w'.cell? a = some v) : SlC w' n s cs := by
  refine ⟨h.1, fun h0 => ?_⟩
  obtain ⟨b, off, h1, h2, h3⟩ := h.2 h0
  exact ⟨b, off, h1, by omega, fun i hi => hc _ _ (h3 i hi)⟩

theorem SlC.firstCells {n : Nat} {s : Option Addr × Nat × Nat} {cs : List Value} (h : SlC w n s cs) {m : Nat} (hm : m * n ≤ cs.length) {w' : World} (hw : ∀ a u, w.cell? a = some u → w'.cell? a = some u) :
    (Builtin.firstCells n m (.slice s.1 s.2.1 s.2.2)).run P w' = .ok (cs.take (m * n)).toArray w' := by
  cases ha : s.1 with
  | none =>
    have h0 : cs.length = 0 := by
      rcases Nat.eq_zero_or_pos cs.length with h0 | h0
      · exact h0
      · obtain ⟨b, off, h1, _⟩ := h.2 h0
        rw [ha] at h1; cases h1
    have hz : cs = [] := List.eq_nil_of_length_eq_zero h0
    subst hz
    simpa using run_firstCells_none w' n m _ _
  | some a =>
    refine run_firstCells_some w' n m a _ _ _ (by simp; omega) fun j u hu => hw _ _ ?_
    have hj : j < m * n ∧ j < cs.length := by
      have := (List.getElem?_eq_some_iff.1 hu).1
      simp at this; omega
    obtain ⟨b, off, h1, _, h3⟩ := h.2 (by omega)
    rw [ha] at h1
    obtain rfl : a = ⟨b, off, none⟩ := by simpa using h1
    rw [addr_add, h3 j hj.2]
    simp [hj.1, hj.2] at hu
    rw [← hu]

theorem Own.slC {e : TypeId} {n : Nat} {v : Option Addr × Nat × Nat} {cs : List Value} (h : Own w e n v cs) : SlC w n v cs := by
  refine ⟨h.len, fun h0 => ?_⟩
  rcases h.at_ with ⟨ha, hc⟩ | ⟨g, off, cur, ha, hg, hfit, htk⟩
  · have := h.empty ha; rw [this.1] at h0; simp at h0
  · refine ⟨g, off, ha, lt_of_blk hg, fun i hi => ?_⟩
    have := h.cell ha (j := i) (u := cs[i]) (by simp [hi])
    rwa [addr_add] at this

/-- two that may be written, of unlike elements, lie apart -/
theorem Own.apart {e e' : TypeId} {n n' : Nat} {v v' : Option Addr × Nat × Nat} {cs cs' : List Value} (h : Own w e n v cs) (h' : Own w e' n' v' cs') (he : e ≠ e') : ∀ y ∈ blkOf v, y ∉ blkOf v' := by
  intro y hy hy'
  rcases h.at_ with ⟨ha, hc⟩ | ⟨g, off, cur, ha, hg, hfit, htk⟩
  · simp [blkOf, ha] at hy
  · rcases h'.at_ with ⟨ha', hc'⟩ | ⟨g', off', cur', ha', hg', hfit', htk'⟩
    · simp [blkOf, ha'] at hy'
    · simp [blkOf, ha] at hy
      simp [blkOf, ha'] at hy'
      subst hy
      rw [← hy', hg] at hg'
      injection hg' with hg'
      injection hg' with _ h2 _
      exact he h2

/-- slices of cells: the bytes from lo up to hi, as a slice -/
theorem SlC.cut {n : Nat} {u : Option Addr × Nat × Nat} {cs : List Value} (h : SlC w n u cs) {i j : Nat} (hij : i ≤ j) (hj : j ≤ u.2.1) (hc : u.2.1 ≤ u.2.2) :
    SlC w n (if u.2.2 = i then u.1 else u.1.map (·.add (i * n)), j - i, u.2.2 - i) ((cs.drop (i * n)).take ((j - i) * n)) := by
  have hl := h.1
  have h1 : (j - i) * n + i * n ≤ u.2.1 * n := by
    rw [← Nat.add_mul]; exact Nat.mul_le_mul_right _ (by omega)
  refine ⟨by simp; omega, fun h0 => ?_⟩
  simp only [List.length_take, List.length_drop] at h0
  have hji : 0 < j - i := by
    rcases Nat.eq_zero_or_pos (j - i) with hz | hz
    · rw [hz] at h0; simp at h0
    · exact hz
  obtain ⟨b, off, h1, h2, h3⟩ := h.2 (by omega)
  refine ⟨b, off + i * n, ?_, h2, fun m hm => ?_⟩
  · simp only
    rw [if_neg (by omega), h1]
    simp [addr_add]
  · simp only [List.length_take, List.length_drop] at hm
    have e1 : off + i * n + m = off + (i * n + m) := by omega
    rw [e1, h3 (i * n + m) (by omega)]
    simp

theorem blkOf_cut {u : Option Addr × Nat × Nat} {i n a b : Nat} : ∀ x ∈ blkOf (if u.2.2 = i then u.1 else u.1.map (·.add (i * n)), a, b), x ∈ blkOf u := by
  intro x hx
  revert hx
  simp only [blkOf]
  split
  · rename_i a ha
    intro hx
    split at ha
    · rw [ha]; exact hx
    · cases hu : u.1 with
      | none => rw [hu] at ha; cases ha
      | some c =>
        rw [hu] at ha
        simp only [Option.map_some, Option.some.injEq] at ha
        subst ha
        unfold Addr.add at hx
        split at hx <;> exact hx
  · intro hx; cases hx

/-- the slice expression, from i up to j -/
theorem slc_cut {u : Option Addr × Nat × Nat} {n i j : Nat} (hij : i ≤ j) (hj : j ≤ u.2.2) :
    slc u.1 u.2.1 u.2.2 n (some (i : Int)) (some (j : Int)) none = some (if u.2.2 = i then u.1 else u.1.map (·.add (i * n)), j - i, u.2.2 - i) := by
  simp [slc, bnd, hj, hij]
theorem slc_to {u : Option Addr × Nat × Nat} {n j : Nat} (hj : j ≤ u.2.2) :
    slc u.1 u.2.1 u.2.2 n none (some (j : Int)) none = some (if u.2.2 = 0 then u.1 else u.1.map (·.add (0 * n)), j - 0, u.2.2 - 0) := by
  simp [slc, bnd, hj]
theorem slc_from {u : Option Addr × Nat × Nat} {n i : Nat} (hi : i ≤ u.2.1) (hc : u.2.1 ≤ u.2.2) :
    slc u.1 u.2.1 u.2.2 n (some (i : Int)) none none = some (if u.2.2 = i then u.1 else u.1.map (·.add (i * n)), u.2.1 - i, u.2.2 - i) := by
  simp [slc, bnd, hc, hi]

theorem SlC.ints {k : IntKind} {s : Option Addr × Nat × Nat} {zs : List Int} (h : SlC w 1 s (zs.map (Value.int k))) : SlI k w s zs := by
  have hl := h.1
  simp only [List.length_map, Nat.mul_one] at hl
  refine ⟨hl, fun h0 => ?_⟩
  obtain ⟨b, off, h1, h2, h3⟩ := h.2 (by simp; omega)
  refine ⟨b, off, h1, h2, fun i hi => ?_⟩
  have := h3 i (by simpa using hi)
  simpa using this
theorem SlI.slC {k : IntKind} {s : Option Addr × Nat × Nat} {zs : List Int} (h : SlI k w s zs) : SlC w 1 s (zs.map (Value.int k)) := by
  refine ⟨by simp [h.1], fun h0 => ?_⟩
  obtain ⟨b, off, h1, h2, h3⟩ := h.2 (by rw [← h.1]; simpa using h0)
  refine ⟨b, off, h1, h2, fun i hi => ?_⟩
  have := h3 i (by simpa using hi)
  simpa using this

/-- a slice as a value -/
def slV (q : Option Addr × Nat × Nat) : Value := .slice q.1 q.2.1 q.2.2

/-- a list of slices of numbers that is read; all of it lies in B -/
def Lst (k : IntKind) (w : World) (B : Nat → Prop) (v : Option Addr × Nat × Nat) (ps : List (List Int)) : Prop :=
  ∃ qs : List (Option Addr × Nat × Nat), SlC w 1 v (qs.map slV) ∧ qs.length = ps.length ∧ (0 < ps.length → ∀ y ∈ blkOf v, B y) ∧
    ∀ i (h : i < ps.length) (h' : i < qs.length), SlI k w qs[i] ps[i] ∧ qs[i].2.1 ≤ qs[i].2.2 ∧ (0 < ps[i].length → ∀ y ∈ blkOf qs[i], B y)

theorem Lst.fr {k : IntKind} {B : Nat → Prop} {v : Option Addr × Nat × Nat} {ps : List (List Int)} {S : List Nat} {w w' : World} (h : Lst k w B v ps) (hf : Fr S w w') (hS : ∀ x ∈ S, x < w.heap.size → ¬ B x) : Lst k w' B v ps := by
  obtain ⟨qs, h1, h2, h3, h4⟩ := h
  have hf' : Fr (S.filter (· < w.heap.size)) w w' := hf.mono (by intro x hx hl; simp [hx, hl])
  refine ⟨qs, h1.fr hf' (fun h0 x hx hm => ?_), h2, h3, fun i hi hi' => ?_⟩
  · simp at hm
    exact hS x hm.1 hm.2 (h3 (by simpa [h2] using h0) x hx)
  · obtain ⟨g1, g2, g3⟩ := h4 i hi hi'
    refine ⟨g1.fr3 hf' fun h0 x hx hm => ?_, g2, g3⟩
    simp at hm
    exact hS x hm.1 hm.2 (g3 (by rw [g1.1]; exact h0) x hx)

theorem Lst.mono {k : IntKind} {B C : Nat → Prop} {v : Option Addr × Nat × Nat} {ps : List (List Int)} (h : Lst k w B v ps) (hB : ∀ x, B x → C x) : Lst k w C v ps := by
  obtain ⟨qs, h1, h2, h3, h4⟩ := h
  exact ⟨qs, h1, h2, fun h0 y hy => hB y (h3 h0 y hy), fun i hi hi' => let ⟨g1, g2, g3⟩ := h4 i hi hi'; ⟨g1, g2, fun h0 y hy => hB y (g3 h0 y hy)⟩⟩

theorem Lst.len {k : IntKind} {B : Nat → Prop} {v : Option Addr × Nat × Nat} {ps : List (List Int)} (h : Lst k w B v ps) : ps.length = v.2.1 := by
  obtain ⟨qs, h1, h2, _⟩ := h
  have := h1.1
  simp at this; omega

theorem Lst.get {k : IntKind} {B : Nat → Prop} {v : Option Addr × Nat × Nat} {ps : List (List Int)} (h : Lst k w B v ps) {i : Nat} (hi : i < ps.length) :
    ∃ a q, idxA v.1 v.2.1 1 (i : Int) = some a ∧ w.cell? a = some (.slice q.1 q.2.1 q.2.2) ∧ SlI k w q ps[i] ∧ q.2.1 ≤ q.2.2 ∧ (0 < ps[i].length → ∀ y ∈ blkOf q, B y) := by
  obtain ⟨qs, h1, h2, h3, h4⟩ := h
  obtain ⟨a, g1, g2⟩ := h1.get (i := i) (by simp; omega)
  refine ⟨a, qs[i], g1, ?_, h4 i hi (by omega)⟩
  rw [g2]; simp [slV]

/-- the first j of a list -/
theorem Lst.cut {k : IntKind} {B : Nat → Prop} {v : Option Addr × Nat × Nat} {ps : List (List Int)} (h : Lst k w B v ps) {j : Nat} (hj : j ≤ ps.length) (hc : v.2.1 ≤ v.2.2) :
    Lst k w B (if v.2.2 = 0 then v.1 else v.1.map (·.add (0 * 1)), j - 0, v.2.2 - 0) (ps.take j) := by
  have hl := h.len
  obtain ⟨qs, h1, h2, h3, h4⟩ := h
  refine ⟨qs.take j, ?_, by simp [h2], fun h0 y hy => h3 (by simp at h0; omega) y (blkOf_cut y hy), fun i hi hi' => ?_⟩
  · have := h1.cut (i := 0) (j := j) (Nat.zero_le _) (by omega) hc
    simpa [List.map_take] using this
  · simp only [List.length_take] at hi hi'
    have := h4 i (by omega) (by omega)
    simpa using this

/-! ## lists of slices that may grow -/
/-- an element that is read -/
def ElR (k : IntKind) (B : Nat → Prop) (w : World) (q : Option Addr × Nat × Nat) (p : List Int) : Prop := SlI k w q p ∧ q.2.1 ≤ q.2.2 ∧ (0 < p.length → ∀ y ∈ blkOf q, B y)
/-- an element that may be written -/
def ElO (e : TypeId) (k : IntKind) (B : Nat → Prop) (w : World) (q : Option Addr × Nat × Nat) (p : List Int) : Prop := Own w e 1 q (p.map (Value.int k)) ∧ ∀ y ∈ blkOf q, B y

/-- what stays where only S is touched -/
def Stays (B : Nat → Prop) (E : World → (Option Addr × Nat × Nat) → List Int → Prop) : Prop := ∀ w w' S q p, Fr S w w' → (∀ x ∈ S, x < w.heap.size → ¬ B x) → E w q p → E w' q p

theorem fr_old {S : List Nat} {w w' : World} (hf : Fr S w w') : Fr (S.filter (· < w.heap.size)) w w' := hf.mono (by intro x hx hl; simp [hx, hl])

theorem stays_r' (k : IntKind) {B C : Nat → Prop} (hC : ∀ y, C y → B y) : Stays B (ElR k C) := fun w w' S q p hf hS ⟨g1, g2, g3⟩ =>
  ⟨g1.fr3 (fr_old hf) (fun h0 x hx hm => by simp at hm; exact hS x hm.1 hm.2 (hC _ (g3 (by rw [g1.1]; exact h0) x hx))), g2, g3⟩
theorem stays_o' (e : TypeId) (k : IntKind) {B C : Nat → Prop} (hC : ∀ y, C y → B y) : Stays B (ElO e k C) := fun w w' S q p hf hS ⟨g1, g2⟩ =>
  ⟨g1.fr (fr_old hf) (fun x hx hm => by simp at hm; exact hS x hm.1 hm.2 (hC _ (g2 x hx))), g2⟩
theorem stays_r (k : IntKind) (B : Nat → Prop) : Stays B (ElR k B) := stays_r' k fun _ => id
theorem stays_o (e : TypeId) (k : IntKind) (B : Nat → Prop) : Stays B (ElO e k B) := stays_o' e k fun _ => id

/-- a list of slices, with elements that fulfil E -/
def LsO (el : TypeId) (B : Nat → Prop) (E : World → (Option Addr × Nat × Nat) → List Int → Prop) (w : World) (v : Option Addr × Nat × Nat) (ps : List (List Int)) : Prop :=
  ∃ qs : List (Option Addr × Nat × Nat), Own w el 1 v (qs.map slV) ∧ qs.length = ps.length ∧ (∀ y ∈ blkOf v, B y) ∧ ∀ i (h : i < ps.length) (h' : i < qs.length), E w qs[i] ps[i]

namespace LsO
variable {el : TypeId} {B : Nat → Prop} {E : World → (Option Addr × Nat × Nat) → List Int → Prop} {v : Option Addr × Nat × Nat} {ps : List (List Int)}
theorem nil : LsO el B E w (none, 0, 0) [] := ⟨[], Own.nil _ _ _, rfl, by simp [blkOf], fun i h => absurd h (by simp)⟩
theorem fr {S : List Nat} {w' : World} (h : LsO el B E w v ps) (hE : Stays B E) (hf : Fr S w w') (hS : ∀ x ∈ S, x < w.heap.size → ¬ B x) : LsO el B E w' v ps := by
  obtain ⟨qs, h1, h2, h3, h4⟩ := h
  exact ⟨qs, h1.fr (fr_old hf) (fun x hx hm => by simp at hm; exact hS x hm.1 hm.2 (h3 x hx)), h2, h3, fun i hi hi' => hE _ _ S _ _ hf hS (h4 i hi hi')⟩
theorem len (h : LsO el B E w v ps) : ps.length = v.2.1 := by
  obtain ⟨qs, h1, h2, _⟩ := h
  have := h1.len
  simp at this; omega
theorem lst {k : IntKind} (h : LsO el B (ElR k B) w v ps) : Lst k w B v ps := by
  obtain ⟨qs, h1, h2, h3, h4⟩ := h
  exact ⟨qs, h1.slC, h2, fun _ => h3, h4⟩
theorem lstR {k : IntKind} {C : Nat → Prop} (h : LsO el B (ElR k C) w v ps) (hC : ∀ y, C y → B y) : Lst k w B v ps := by
  obtain ⟨qs, h1, h2, h3, h4⟩ := h
  exact ⟨qs, h1.slC, h2, fun _ => h3, fun i hi hi' => let ⟨a, b, c⟩ := h4 i hi hi'; ⟨a, b, fun h0 y hy => hC _ (c h0 y hy)⟩⟩
theorem le (h : LsO el B E w v ps) : v.2.1 ≤ v.2.2 := by obtain ⟨qs, h1, _⟩ := h; exact h1.le
theorem lst' {e : TypeId} {k : IntKind} (h : LsO el B (ElO e k B) w v ps) : Lst k w B v ps := by
  obtain ⟨qs, h1, h2, h3, h4⟩ := h
  exact ⟨qs, h1.slC, h2, fun _ => h3, fun i hi hi' => ⟨(h4 i hi hi').1.slI, (h4 i hi hi').1.le, fun _ => (h4 i hi hi').2⟩⟩
end LsO

/-- what is stored in one cell leaves all slices writable -/
theorem Own.stir {e : TypeId} {n : Nat} {v : Option Addr × Nat × Nat} {xs : List Value} (h : Own w e n v xs) (g i : Nat) (u : Value) : ∃ ys, Own (w.setCell ⟨g, i, none⟩ u) e n v ys := by
  rcases h.at_ with h1 | ⟨g', off, cur, h1, h2, h3, h4⟩
  · exact ⟨xs, h.len, h.le, h.max, .inl h1⟩
  · by_cases hg : g = g'
    · subst hg
      refine ⟨((cur.setIfInBounds i u).toList.drop off).take (v.2.1 * n), ?_, h.le, h.max, .inr ⟨g, off, cur.setIfInBounds i u, h1, setCell_blk h2, by simpa using h3, rfl⟩⟩
      have : v.2.1 * n ≤ v.2.2 * n := Nat.mul_le_mul_right _ h.le
      simp; omega
    · exact ⟨xs, h.len, h.le, h.max, .inr ⟨g', off, cur, h1, by rw [setCell_blk_ne (by simp; omega)]; exact h2, h3, h4⟩⟩

/-- a list of slices of numbers that came in -/
theorem lst_of_at {k : IntKind} {x : (Ty.slice (.slice (.int k))).Val} (h : (Ty.slice (.slice (.int k))).At w [.slice x.1.1 x.1.2.1 x.1.2.2] x) :
    Lst k w (fun y => y < w.heap.size) x.1 (x.2.map (·.2)) ∧ (∀ p ∈ x.2.map (·.2), ∀ z ∈ p, k.min ≤ z ∧ z ≤ k.max) ∧ x.1.2.1 ≤ x.1.2.2 := by
  obtain ⟨_, h2, h3, _, h5, h6⟩ := h
  have key : ∀ a, x.1.1 = some a → ∀ i (hi : i < x.2.length), w.cell? (a.add i) = some (slV x.2[i].1) ∧ (Ty.slice (.int k)).At w [.slice x.2[i].1.1 x.2[i].1.2.1 x.2[i].1.2.2] x.2[i] := by
    intro a ha i hi
    obtain ⟨cs, g1, g2, g3⟩ := h6 a ha i hi
    have g3' := g3.1
    subst g3'
    have := g2 0 (by simp)
    have e1 : Ty.size (.slice (.int k)) = 1 := rfl
    rw [e1, Nat.mul_one] at this
    exact ⟨by simpa [Addr.add, slV] using this, g3⟩
  have ne : 0 < x.2.length → ∃ a, x.1.1 = some a := by
    intro h0
    cases ha : x.1.1 with
    | none => have := h5 ha; omega
    | some a => exact ⟨a, rfl⟩
  have base : ∀ a, x.1.1 = some a → 0 < x.2.length → a.spot = none ∧ a.block < w.heap.size := by
    intro a ha h0
    have h7 := (key a ha 0 h0).1
    have hlt : a.block < w.heap.size := World.block_lt_of_cell? w a (by simpa [Addr.add] using h7)
    have hs : a.spot = none := by
      unfold World.cell? at h7
      split at h7
      · split at h7
        · cases h7
        · rename_i hs; simpa [Addr.add] using hs
      · cases h7
    exact ⟨hs, hlt⟩
  refine ⟨⟨x.2.map (·.1), ⟨by simp [h2], fun h0 => ?_⟩, by simp, fun h0 y hy => ?_, fun i hi hi' => ?_⟩, ?_, h3⟩
  · simp only [List.length_map] at h0
    obtain ⟨a, ha⟩ := ne h0
    obtain ⟨hs, hb⟩ := base a ha h0
    obtain ⟨b, off, sp⟩ := a
    simp only at hs hb
    subst hs
    refine ⟨b, off, ha, hb, fun i hi => ?_⟩
    simp only [List.length_map] at hi
    have := (key _ ha i hi).1
    rw [addr_add] at this
    simpa using this
  · simp only [List.length_map] at h0
    obtain ⟨a, ha⟩ := ne h0
    simp [blkOf, ha] at hy
    subst hy
    exact (base a ha h0).2
  · simp only [List.length_map] at hi
    obtain ⟨a, ha⟩ := ne (by omega)
    have := (key a ha i hi).2
    obtain ⟨g1, g2, g3⟩ := slI_of_at this
    simp only [List.getElem_map]
    exact ⟨g1, this.2.2.1, fun h0 y hy => g3 y hy h0⟩
  · intro p hp
    obtain ⟨i, hi, rfl⟩ := List.getElem_of_mem hp
    simp only [List.length_map] at hi
    obtain ⟨a, ha⟩ := ne (by omega)
    simp only [List.getElem_map]
    exact (slI_of_at (key a ha i hi).2).2.1

theorem bulk_int {k : IntKind} (x : (Ty.slice (.int k)).Val) : (Ty.slice (.int k)).bulk x = x.2.length + 1 := by
  have : ∀ l : List Int, (l.map (Ty.int k).bulk).sum = l.length := by
    intro l; induction l with
    | nil => rfl
    | cons a l ih => rw [List.map_cons, List.sum_cons, ih]; simp [Ty.bulk]; omega
  rw [← this x.2]; rfl

theorem bulk_list {k : IntKind} (x : (Ty.slice (.slice (.int k))).Val) : (Ty.slice (.slice (.int k))).bulk x = ((x.2.map (·.2)).map fun p => p.length + 1).sum + 1 := by
  have : (Ty.slice (.slice (.int k))).bulk x = (x.2.map (Ty.slice (.int k)).bulk).sum + 1 := rfl
  rw [this, List.map_map]
  congr 2
  apply List.map_congr_left
  intro y _
  exact bulk_int y
end Go.Ev
