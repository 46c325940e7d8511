/-
  Lb3: lemmas on what Go functions of this seat come to (for whatever arguments, as each says). No condition but those that stand in each lemma.
-/
import Derived.Test.YtjcenfgmpbeldaaLb2
import Derived.Laws.AppendOwn
import Derived.Laws.OwnMore
namespace Go.Ev
open Go
variable {P : Program} {w : World}

/-- a slice that may be written: it reads xs, cell by cell -/
structure Own (w : World) (e : TypeId) (size : Nat) (v : Option Addr × Nat × Nat) (xs : List Value) : Prop where
  len : xs.length = v.2.1 * size
  le : v.2.1 ≤ v.2.2
  max : v.2.2 ≤ maxLen
  at_ : (v.1 = none ∧ v.2.2 = 0) ∨ ∃ g off cur, v.1 = some ⟨g, off, none⟩ ∧ w.heap[g]? = some (.cells cur e (0, 0)) ∧ off + v.2.2 * size ≤ cur.size ∧ (cur.toList.drop off).take (v.2.1 * size) = xs

/-- the block of a slice -/
def blkOf (v : Option Addr × Nat × Nat) : List Nat := match v.1 with | some a => [a.block] | none => []

namespace Own
variable {e : TypeId} {size : Nat} {v : Option Addr × Nat × Nat} {xs : List Value}

theorem nil (w : World) (e : TypeId) (size : Nat) : Own w e size (none, 0, 0) [] := ⟨by simp, Nat.le_refl _, by simp, .inl ⟨rfl, rfl⟩⟩

theorem lt (h : Own w e size v xs) : ∀ k ∈ blkOf v, k < w.heap.size := by
  intro k hk
  rcases h.at_ with ⟨h1, _⟩ | ⟨g, off, cur, h1, h2, _⟩
  · simp [blkOf, h1] at hk
  · simp [blkOf, h1] at hk; subst hk; exact lt_of_blk h2

theorem fr {S : List Nat} {w' : World} (h : Own w e size v xs) (hf : Fr S w w') (hd : ∀ k ∈ blkOf v, k ∉ S) : Own w' e size v xs := by
  refine ⟨h.len, h.le, h.max, ?_⟩
  rcases h.at_ with h1 | ⟨g, off, cur, h1, h2, h3⟩
  · exact .inl h1
  · exact .inr ⟨g, off, cur, h1, hf.blk h2 (hd g (by simp [blkOf, h1])), h3⟩

theorem cell (h : Own w e size v xs) {a : Addr} (ha : v.1 = some a) {j : Nat} {u : Value} (hu : xs[j]? = some u) : w.cell? (a.add j) = some u := by
  rcases h.at_ with ⟨h1, _⟩ | ⟨g, off, cur, h1, h2, h3, h4⟩
  · rw [h1] at ha; cases ha
  · rw [h1] at ha
    obtain rfl : a = ⟨g, off, none⟩ := by simpa using ha.symm
    rw [addr_add, cell_blk h2, ← Array.getElem?_toList]
    rw [← h4, List.getElem?_take] at hu
    split at hu
    · rw [List.getElem?_drop] at hu; exact hu
    · cases hu

theorem empty (h : Own w e size v xs) (hn : v.1 = none) : xs = [] ∧ v.2.1 = 0 ∧ v.2.2 = 0 := by
  rcases h.at_ with ⟨_, h2⟩ | ⟨g, off, cur, h1, _⟩
  · have h3 : v.2.1 = 0 := by have := h.le; omega
    refine ⟨List.eq_nil_of_length_eq_zero ?_, h3, h2⟩
    rw [h.len, h3]; simp
  · rw [h1] at hn; cases hn

theorem firstCells (h : Own w e size v xs) : (Builtin.firstCells size v.2.1 (.slice v.1 v.2.1 v.2.2)).run P w = .ok xs.toArray w := by
  cases ha : v.1 with
  | none => rw [(h.empty ha).1]; exact run_firstCells_none w size _ _ _
  | some a => exact run_firstCells_some w size _ a _ _ xs h.len fun j u hu => h.cell ha hu

theorem drew (h : Own w e size v xs) : Own w.drew e size v xs := h.fr (Fr.drew [] w) (by simp)
end Own

theorem fr_setRow {g : Nat} {cs : Array Value} : Fr [g] w (w.setRow g cs) :=
  ⟨rfl, rfl, rfl, by simp, fun k _ hk => setRow_other w g k _ (by simpa using hk)⟩

/-- append: what is there, and n cells more -/
theorem callB_append {t tx ty e : TypeId} {i : TypeInfo} {z : Value} {size bytes : Nat} {consts : Array Bool} (ht : P.underlying t = some (.slice e)) (hi : P.info? e = some i) (hz : i.zero = some z)
    (hsize : i.size = size) (hby : i.bytes = bytes) (hzs : z.cells.size = size) {d : TypeDesc} (hx : P.underlying tx = some d) (hxi : ∀ k, d ≠ .int k)
    {v : Option Addr × Nat × Nat} {xs : List Value} (h : Own w e size v xs) {x : Value} {m : Nat} {news : List Value}
    (hlen : (Builtin.lenOf x).run P w = .ok m w) (hn : news.length = m * size) (hfc : ∀ w', (∀ a u, w.cell? a = some u → w'.cell? a = some u) → (Builtin.firstCells size m x).run P w' = .ok news.toArray w')
    (h1 : ∀ u ∈ news, u.oneCell' = true) (h63 : v.2.1 + m ≤ maxLen) (hbytes : (v.2.1 + m) * bytes ≤ 140737488355328) :
    ∃ v' w', callB P .append #[t, tx] ty consts #[.slice v.1 v.2.1 v.2.2, x] w = some (.slice v'.1 v'.2.1 v'.2.2, w') ∧ v'.2.1 = v.2.1 + m ∧ Own w' e size v' (xs ++ news) ∧
      Fr (blkOf v) w w' ∧ (v'.1 = v.1 ∧ v'.2.2 = v.2.2 ∨ blkOf v' = [w.heap.size]) := by
  subst hsize hby
  have hsmall : ((v.2.1 + m : Nat) : Int) ≤ 9223372036854775807 := by simp only [maxLen] at h63; omega
  have hfx := hfc w fun _ _ h => h
  have hll : (xs ++ news).length = (v.2.1 + m) * i.size := by rw [List.length_append, h.len, hn, Nat.add_mul]
  by_cases hroom : v.2.1 + m ≤ v.2.2
  · rcases h.at_ with ⟨ha, hc⟩ | ⟨g, off, cur, ha, hg, hfit, htk⟩
    · obtain rfl : m = 0 := by omega
      have hv : v.2.1 = 0 := by omega
      have hnn : news = [] := List.eq_nil_of_length_eq_zero (by rw [hn]; simp)
      have hxx : xs = [] := (h.empty ha).1
      have hle := h.le
      subst hnn
      refine ⟨v, w, ?_, by omega, ?_, Fr.refl _ _, .inl ⟨rfl, rfl⟩⟩
      · simp [callB, Go.builtin, Builtin.append_, run_underlying ht, run_underlying hx, sizeOf, typeInfo, hi, hlen, hle, hfx, ha, nextR]
      · rw [hxx]; exact ⟨by simp [hv], h.le, h.max, .inl ⟨ha, hc⟩⟩
    · have hsz : (v.2.1 + m) * i.size ≤ v.2.2 * i.size := Nat.mul_le_mul_right _ hroom
      rw [Nat.add_mul] at hsz
      have hst := run_storeCells_at P g (off + v.2.1 * i.size) e news 0 cur w hg (by omega) h1
      simp only [Nat.add_zero] at hst
      have htake : cur.toList.take (off + v.2.1 * i.size) = cur.toList.take off ++ xs := by
        rw [← htk, ← List.take_add]
      have hol : (cur.toList.take off).length = off := by rw [List.length_take, Array.length_toList]; omega
      refine ⟨(v.1, v.2.1 + m, v.2.2), w.setRow g (List.take (off + v.2.1 * i.size) cur.toList ++ news ++ List.drop (off + v.2.1 * i.size + news.length) cur.toList).toArray, ?_, rfl,
        ⟨hll, hroom, h.max, .inr ⟨g, off, (List.take (off + v.2.1 * i.size) cur.toList ++ news ++ List.drop (off + v.2.1 * i.size + news.length) cur.toList).toArray, ha, setRow_heap w g cur _ e _ hg, ?_, ?_⟩⟩, ?_, .inl ⟨rfl, rfl⟩⟩
      · simp [callB, Go.builtin, Builtin.append_, run_underlying ht, run_underlying hx, sizeOf, typeInfo, hi, hlen, hroom, hfx, ha, nextR, addr_add, hst]
      · simp only [List.size_toArray, List.length_append, List.length_take, List.length_drop, Array.length_toList]
        omega
      · rw [List.toList_toArray, htake, List.append_assoc, List.append_assoc, List.drop_left' hol, ← List.append_assoc]
        exact List.take_left' hll
      · have : blkOf v = [g] := by simp [blkOf, ha]
        rw [this]; exact fr_setRow
  · have hge := grownCap_ge w (v.2.1 + m) v.2.2 e
    have hcm : grownCap w (v.2.1 + m) v.2.2 e ≤ maxLen := grownCap_le_maxLen w (v.2.1 + m) v.2.2 e h63
    have hfit := growslice_fits (need := v.2.1 + m) (old := v.2.2) (bytes := i.bytes) (by omega) hbytes
    have hf1 := h.drew.firstCells (P := P)
    have hf2 := hfc w.drew fun _ _ h => h
    have h63' : ¬ (9223372036854775807 < ((v.2.1 : Int) + (m : Int))) := by omega
    have h48' : ¬ (281474976710656 < Builtin.nextslicecap (v.2.1 + m) v.2.2 * i.bytes) := by omega
    refine ⟨(some ⟨w.heap.size, 0, none⟩, v.2.1 + m, grownCap w (v.2.1 + m) v.2.2 e), w.drew.alloc (.cells (xs.toArray ++ news.toArray ++ Builtin.zeroCells z.cells (grownCap w (v.2.1 + m) v.2.2 e - (v.2.1 + m))) e), ?_, rfl,
      ⟨hll, hge, hcm, .inr ⟨w.heap.size, 0, _, rfl, heap_alloc_new w.drew _, ?_, ?_⟩⟩, ?_, .inr rfl⟩
    · simp [callB, Go.builtin, Builtin.append_, run_underlying ht, run_underlying hx, sizeOf, typeInfo, zeroValue, hi, hz, hlen, hroom, h63', h48', hf1, hf2, Question.forced, newRow, grownCap, nextR]
      congr 2
      apply Array.ext'
      simp [List.append_assoc]
    · simp only [Array.size_append, List.size_toArray, size_zeroCells, hzs, h.len, hn, ← Nat.add_mul, Nat.zero_add]
      exact Nat.mul_le_mul_right _ (by omega)
    · simp only [Array.toList_append, List.append_assoc, List.drop_zero]
      rw [← List.append_assoc, ← hll]
      exact List.take_left
    · exact ((Fr.drew [] w).trans (Fr.alloc _)).nil
theorem SlI.fr2 {k : IntKind} {w w' : World} {s : Option Addr × Nat × Nat} {zs : List Int} {S : List Nat} (h : SlI k w s zs) (hf : Fr S w w') (hS : ∀ x ∈ blkOf s, x ∉ S) : SlI k w' s zs := by
  refine ⟨h.1, fun h0 => ?_⟩
  obtain ⟨b, off, h1, h2, h3⟩ := h.2 h0
  refine ⟨b, off, h1, Nat.lt_of_lt_of_le h2 hf.size, fun i hi => ?_⟩
  rw [cell_of_blk_eq (w := w) (hf.keep b h2 (hS b (by simp [blkOf, h1])))]
  exact h3 i hi

theorem SlI.fr3 {k : IntKind} {w w' : World} {s : Option Addr × Nat × Nat} {zs : List Int} {S : List Nat} (h : SlI k w s zs) (hf : Fr S w w') (hS : 0 < s.2.1 → ∀ x ∈ blkOf s, x ∉ S) : SlI k w' s zs := by
  refine ⟨h.1, fun h0 => ?_⟩
  obtain ⟨b, off, h1, h2, h3⟩ := h.2 h0
  refine ⟨b, off, h1, Nat.lt_of_lt_of_le h2 hf.size, fun i hi => ?_⟩
  rw [cell_of_blk_eq (w := w) (hf.keep b h2 (hS h0 b (by simp [blkOf, h1])))]
  exact h3 i hi

end Go.Ev
