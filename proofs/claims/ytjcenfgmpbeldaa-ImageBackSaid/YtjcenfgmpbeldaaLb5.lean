/-
  Lb5: lemmas on what Go functions of this seat come to (for whatever arguments, as each says). No condition but those that stand in each lemma.
-/
import Derived.Test.YtjcenfgmpbeldaaLb4
namespace Go.Ev
open Go
set_option linter.unusedSimpArgs false
variable {P : Program} {w : World}

/-- copy: what fits of the source -/
theorem callB_copy {t tx ty e : TypeId} {i : TypeInfo} {size : Nat} {consts : Array Bool} (ht : P.underlying t = some (.slice e)) (hi : P.info? e = some i) (hsize : i.size = size)
    {v : Option Addr × Nat × Nat} {xs : List Value} (h : Own w e size v xs) {x : Value} {m : Nat} {news : List Value}
    (hlen : (Builtin.lenOf x).run P w = .ok m w) (hn : news.length = Nat.min m v.2.1 * size) (hfc : (Builtin.firstCells size (Nat.min m v.2.1) x).run P w = .ok news.toArray w)
    (h1 : ∀ u ∈ news, u.oneCell' = true) :
    ∃ w', callB P .copy #[t, tx] ty consts #[.slice v.1 v.2.1 v.2.2, x] w = some (.int .i64 (Nat.min m v.2.1 : Nat), w') ∧ Own w' e size v (news ++ xs.drop news.length) ∧ Fr (blkOf v) w w' := by
  subst hsize
  have hmin : Nat.min m v.2.1 ≤ v.2.1 := Nat.min_le_right _ _
  have hnx : news.length ≤ xs.length := by rw [hn, h.len]; exact Nat.mul_le_mul_right _ hmin
  rcases h.at_ with ⟨ha, hc⟩ | ⟨g, off, cur, ha, hg, hfit, htk⟩
  · have hv : v.2.1 = 0 := by have := h.le; omega
    have hx := (h.empty ha).1
    have hnn : news = [] := List.eq_nil_of_length_eq_zero (by rw [hx] at hnx; simpa using hnx)
    refine ⟨w, ?_, ?_, Fr.refl _ _⟩
    · simp [callB, Go.builtin, Builtin.copy_, run_underlying ht, sizeOf, typeInfo, hi, hlen, hfc, ha, nextR, goInt]
    · rw [hnn]; simpa using h
  · have hle : v.2.1 * i.size ≤ v.2.2 * i.size := Nat.mul_le_mul_right _ h.le
    have hst := run_storeCells_at P g off e news 0 cur w hg (by rw [h.len] at hnx; omega) h1
    simp only [Nat.add_zero] at hst
    refine ⟨w.setRow g (List.take off cur.toList ++ news ++ List.drop (off + news.length) cur.toList).toArray, ?_,
      ⟨?_, h.le, h.max, .inr ⟨g, off, (List.take off cur.toList ++ news ++ List.drop (off + news.length) cur.toList).toArray, ha, setRow_heap w g cur _ e _ hg, ?_, ?_⟩⟩, ?_⟩
    · simp [callB, Go.builtin, Builtin.copy_, run_underlying ht, sizeOf, typeInfo, hi, hlen, hfc, ha, nextR, goInt, hst]
    · rw [List.length_append, List.length_drop, ← h.len]; omega
    · rw [h.len] at hnx
      simp only [List.size_toArray, List.length_append, List.length_take, List.length_drop, Array.length_toList]
      omega
    · have hol : (List.take off cur.toList).length = off := by rw [List.length_take, Array.length_toList]; omega
      rw [List.toList_toArray, List.append_assoc, List.drop_left' hol]
      rw [← htk, List.drop_take]
      rw [h.len] at hnx
      have e1 : List.take (v.2.1 * i.size) (news ++ List.drop (off + news.length) cur.toList) = news ++ List.take (v.2.1 * i.size - news.length) (List.drop (off + news.length) cur.toList) := by
        rw [List.take_append, List.take_of_length_le hnx]
      rw [e1, List.drop_drop]
    · have : blkOf v = [g] := by simp [blkOf, ha]
      rw [this]; exact fr_setRow

theorem zrow_one {z : Value} (hz : z.cells = #[z]) (n : Nat) : zrow z n = (List.replicate n z).toArray := by
  apply Array.ext
  · simp [zrow]
  · intro j h1 h2
    simp [zrow, hz, Nat.mod_one]

/-- a new slice of zeros, of one cell each -/
theorem own_make (w : World) (e : TypeId) {z : Value} (hz : z.cells = #[z]) {n c : Nat} (hn : n ≤ c) (hc : c ≤ maxLen) :
    Own (w.alloc (.cells (zrow z (c * 1)) e)) e 1 (some ⟨w.heap.size, 0, none⟩, n, c) (List.replicate n z) := by
  refine ⟨by simp, hn, hc, .inr ⟨w.heap.size, 0, zrow z (c * 1), rfl, alloc_blk_new _, ?_, ?_⟩⟩
  · rw [zrow_one hz]; simp
  · rw [zrow_one hz]
    simp [List.take_replicate, Nat.min_eq_left hn]

/-- a slice of integers that may be written reads as one -/
theorem Own.slI {e : TypeId} {v : Option Addr × Nat × Nat} {k : IntKind} {zs : List Int} (h : Own w e 1 v (zs.map (Value.int k))) : SlI k w v zs := by
  have hl := h.len
  simp only [List.length_map, Nat.mul_one] at hl
  refine ⟨hl, fun h0 => ?_⟩
  rcases h.at_ with ⟨ha, hc⟩ | ⟨g, off, cur, ha, hg, hfit, htk⟩
  · have := h.le; omega
  · refine ⟨g, off, ha, lt_of_blk hg, fun i hi => ?_⟩
    have := h.cell ha (j := i) (u := .int k zs[i]) (by simp [hi])
    rwa [addr_add] at this

/-- a slice of integers that came in reads as one -/
theorem slI_of_at {k : IntKind} {x : (Ty.slice (.int k)).Val} (h : (Ty.slice (.int k)).At w [.slice x.1.1 x.1.2.1 x.1.2.2] x) :
    SlI k w x.1 x.2 ∧ (∀ z ∈ x.2, k.min ≤ z ∧ z ≤ k.max) ∧ (∀ y ∈ blkOf x.1, 0 < x.2.length → y < w.heap.size) := by
  obtain ⟨_, h2, h3, _, h5, h6⟩ := h
  have key : ∀ a, x.1.1 = some a → ∀ i (hi : i < x.2.length), w.cell? (a.add i) = some (.int k x.2[i]) ∧ k.min ≤ x.2[i] ∧ x.2[i] ≤ k.max := by
    intro a ha i hi
    obtain ⟨cs, g1, g2, g3, g4⟩ := h6 a ha i hi
    subst g3
    have := g2 0 (by simp)
    have e1 : Ty.size (.int k) = 1 := rfl
    rw [e1, Nat.mul_one] at this
    exact ⟨by simpa [Addr.add] using this, g4⟩
  have base : ∀ a, x.1.1 = some a → 0 < x.2.length → a.spot = none ∧ a.block < w.heap.size := by
    intro a ha h0
    have h7 := (key a ha 0 h0).1
    have hlt : a.block < w.heap.size := World.block_lt_of_cell? w a (by simpa [Addr.add] using h7)
    have hs : a.spot = none := by
      unfold World.cell? at h7
      split at h7
      · split at h7
        · cases h7
        · rename_i hs; simpa [Addr.add] using hs
      · cases h7
    exact ⟨hs, hlt⟩
  refine ⟨⟨h2, fun h0 => ?_⟩, ?_, ?_⟩
  · cases ha : x.1.1 with
    | none => have := h5 ha; omega
    | some a =>
      obtain ⟨hs, hb⟩ := base a ha (by omega)
      obtain ⟨b, off, sp⟩ := a
      simp only at hs hb
      subst hs
      refine ⟨b, off, rfl, hb, fun i hi => ?_⟩
      have := (key _ ha i hi).1
      rwa [addr_add] at this
  · intro z hz
    obtain ⟨i, hi, rfl⟩ := List.getElem_of_mem hz
    cases ha : x.1.1 with
    | none => have := h5 ha; omega
    | some a => exact (key a ha i hi).2
  · intro y hy h0
    cases ha : x.1.1 with
    | none => simp [blkOf, ha] at hy
    | some a =>
      simp [blkOf, ha] at hy
      subst hy
      exact (base a ha h0).2

theorem SlI.firstCells {k : IntKind} {s : Option Addr × Nat × Nat} {zs : List Int} (h : SlI k w s zs) {m : Nat} (hm : m ≤ zs.length) {w' : World} (hw : ∀ a u, w.cell? a = some u → w'.cell? a = some u) :
    (Builtin.firstCells 1 m (.slice s.1 s.2.1 s.2.2)).run P w' = .ok ((zs.take m).map (Value.int k)).toArray w' := by
  cases ha : s.1 with
  | none =>
    have h0 : zs.length = 0 := by
      rcases Nat.eq_zero_or_pos s.2.1 with h0 | h0
      · rw [h.1, h0]
      · obtain ⟨b, off, h1, _⟩ := h.2 h0
        rw [ha] at h1; cases h1
    have hz : zs = [] := List.eq_nil_of_length_eq_zero h0
    subst hz
    simpa using run_firstCells_none w' 1 m _ _
  | some a =>
    refine run_firstCells_some w' 1 m a _ _ _ (by simp; omega) fun j u hu => hw _ _ ?_
    have hj : j < m ∧ j < zs.length := by
      have := (List.getElem?_eq_some_iff.1 hu).1
      simp at this; omega
    obtain ⟨b, off, h1, _, h3⟩ := h.2 (by have := h.1; omega)
    rw [ha] at h1
    obtain rfl : a = ⟨b, off, none⟩ := by simpa using h1
    rw [addr_add, h3 j hj.2]
    simp [hj.1, hj.2] at hu
    rw [← hu]

theorem addr_add0 (a : Addr) : a.add 0 = a := by unfold Addr.add; rw [if_pos rfl]

/-- the first j of a slice -/
theorem slc_hi {k : IntKind} {u : Option Addr × Nat × Nat} {zs : List Int} (h : SlI k w u zs) {j : Nat} (hj : j ≤ zs.length) (hc : u.2.1 ≤ u.2.2) :
    ∃ q, slc u.1 u.2.1 u.2.2 1 none (some (j : Int)) none = some q ∧ SlI k w q (zs.take j) ∧ ∀ x ∈ blkOf q, x ∈ blkOf u := by
  have hl := h.1
  have hjc : j ≤ u.2.2 := by omega
  refine ⟨(u.1, j, u.2.2), ?_, ⟨by simp; omega, fun h0 => ?_⟩, fun x hx => hx⟩
  · have e1 : (if u.2.2 = 0 then u.1 else u.1.map fun x => x.add 0) = u.1 := by
      split
      · rfl
      · cases u.1 <;> simp [addr_add0]
    simp [slc, bnd, hjc, e1]
  · simp only at h0
    obtain ⟨b, off, h1, h2, h3⟩ := h.2 (by omega)
    refine ⟨b, off, h1, h2, fun i hi => ?_⟩
    simp only [List.length_take] at hi
    rw [h3 i (by omega)]
    simp

/-- a slice from j on -/
theorem slc_lo {k : IntKind} {u : Option Addr × Nat × Nat} {zs : List Int} (h : SlI k w u zs) {j : Nat} (hj : j ≤ zs.length) (hc : u.2.1 ≤ u.2.2) :
    ∃ q, slc u.1 u.2.1 u.2.2 1 (some (j : Int)) none none = some q ∧ SlI k w q (zs.drop j) ∧ ∀ x ∈ blkOf q, x ∈ blkOf u := by
  have hl := h.1
  have hjl : j ≤ u.2.1 := by omega
  refine ⟨(if u.2.2 = j then u.1 else u.1.map (·.add (j * 1)), u.2.1 - j, u.2.2 - j), ?_, ⟨by simp; omega, fun h0 => ?_⟩, fun x hx => ?_⟩
  · simp [slc, bnd, hc, hjl]
  · simp only at h0
    obtain ⟨b, off, h1, h2, h3⟩ := h.2 (by omega)
    refine ⟨b, off + j, ?_, h2, fun i hi => ?_⟩
    · simp only
      rw [if_neg (by omega), h1]
      simp [addr_add]
    · simp only [List.length_drop] at hi
      have e1 : off + j + i = off + (j + i) := by omega
      rw [e1, h3 (j + i) (by omega)]
      simp
  · revert hx
    simp only [blkOf]
    split
    · rename_i a ha
      intro hx
      split at ha
      · rw [ha]; exact hx
      · cases hu : u.1 with
        | none => rw [hu] at ha; cases ha
        | some c =>
          rw [hu] at ha
          simp only [Option.map_some, Option.some.injEq] at ha
          subst ha
          unfold Addr.add at hx
          split at hx <;> exact hx
    · intro hx; cases hx

/-- where the elements of a slice lie -/
theorem Own.idx {e : TypeId} {size : Nat} {v : Option Addr × Nat × Nat} {xs : List Value} (h : Own w e size v xs) {i : Nat} (hi : i < v.2.1) :
    ∃ g off, v.1 = some ⟨g, off, none⟩ ∧ idxA v.1 v.2.1 size (i : Int) = some ⟨g, off + i * size, none⟩ := by
  rcases h.at_ with ⟨_, hc⟩ | ⟨g, off, cur, ha, _⟩
  · have := h.le; omega
  · refine ⟨g, off, ha, ?_⟩
    unfold idxA
    rw [if_pos (by omega), ha]
    simp [addr_add]

theorem Own.get {e : TypeId} {size : Nat} {v : Option Addr × Nat × Nat} {xs : List Value} (h : Own w e size v xs) {g off : Nat} (ha : v.1 = some ⟨g, off, none⟩) (k : Nat) (hk : k < xs.length) :
    w.cell? ⟨g, off + k, none⟩ = some xs[k] := by
  have := h.cell ha (j := k) (u := xs[k]) (by simp [hk])
  rwa [addr_add] at this

/-- a cell of a slice is set -/
theorem Own.set {e : TypeId} {size : Nat} {v : Option Addr × Nat × Nat} {xs : List Value} (h : Own w e size v xs) {g off : Nat} (ha : v.1 = some ⟨g, off, none⟩) {k : Nat} (hk : k < xs.length) {u : Value} (hu : u.oneCell' = true) :
    st1 w ⟨g, off + k, none⟩ u = some (w.setCell ⟨g, off + k, none⟩ u) ∧ Own (w.setCell ⟨g, off + k, none⟩ u) e size v (xs.set k u) ∧ Fr (blkOf v) w (w.setCell ⟨g, off + k, none⟩ u) := by
  rcases h.at_ with ⟨h1, _⟩ | ⟨g', off', cur, h1, h2, h3, h4⟩
  · rw [h1] at ha; cases ha
  · rw [h1] at ha
    obtain ⟨rfl, rfl⟩ : g' = g ∧ off' = off := by simpa using ha
    have hle : v.2.1 * size ≤ v.2.2 * size := Nat.mul_le_mul_right _ h.le
    have hlen := h.len
    refine ⟨st1_blk (u := cur[off' + k]'(by omega)) h2 (by simp) hu, ⟨by rw [List.length_set]; exact h.len, h.le, h.max, .inr ⟨g', off', cur.setIfInBounds (off' + k) u, h1, setCell_blk h2, by simpa using h3, ?_⟩⟩, ?_⟩
    · rw [Array.toList_setIfInBounds, List.drop_set, if_neg (by omega), List.take_set, h4]
      congr 1; omega
    · have : blkOf v = [g'] := by simp [blkOf, h1]
      rw [this]; exact Fr.setCell

/-- what stands so far where f is laid over zs -/
def mixI (f : Nat → Int) (zs : List Int) (i : Nat) : List Int := (List.range zs.length).map fun j => if j < i then f j else zs.getD j 0

theorem mixI_length {f : Nat → Int} {zs : List Int} {i : Nat} : (mixI f zs i).length = zs.length := by simp [mixI]
theorem mixI_zero {f : Nat → Int} {zs : List Int} : mixI f zs 0 = zs := by
  apply List.ext_getElem
  · simp [mixI]
  · intro j h1 h2; simp [mixI, h2]
theorem mixI_all {f : Nat → Int} {zs : List Int} : mixI f zs zs.length = (List.range zs.length).map f := by
  apply List.ext_getElem
  · simp [mixI]
  · intro j h1 h2
    have : j < zs.length := by simpa [mixI] using h1
    simp [mixI, this]
theorem mixI_set {f : Nat → Int} {zs : List Int} {i : Nat} : (mixI f zs i).set i (f i) = mixI f zs (i + 1) := by
  apply List.ext_getElem
  · simp [mixI]
  · intro j h1 h2
    have hj : j < zs.length := by simpa [mixI] using h2
    rw [List.getElem_set]
    by_cases hij : i = j
    · subst hij; simp [mixI]
    · simp only [hij, if_false, mixI, List.getElem_map, List.getElem_range]
      by_cases h3 : j < i
      · have : j < i + 1 := by omega
        simp [h3, this]
      · have : ¬ j < i + 1 := by omega
        simp [h3, this]
theorem mixI_at {f : Nat → Int} {zs : List Int} {i : Nat} (hi : i < zs.length) : (mixI f zs (i + 1))[i]'(by rw [mixI_length]; exact hi) = f i := by simp [mixI]
end Go.Ev
