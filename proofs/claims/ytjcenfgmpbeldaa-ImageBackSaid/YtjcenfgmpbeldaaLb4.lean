/-
  Lb4: lemmas on what Go functions of this seat come to (for whatever arguments, as each says). No condition but those that stand in each lemma.
-/
import Derived.Test.YtjcenfgmpbeldaaLb3
namespace Go.Ev
open Go
set_option linter.unusedSectionVars false
set_option linter.unusedSimpArgs false
variable {w : World} {K : Type} [DecidableEq K]

/-- keys that are told apart at once -/
def KeyOk (d : TypeDesc) (enc : K → Value) : Prop := ∀ a b : K, Instr.sameNow d (enc a) (enc b) = some (decide (a = b))

theorem keyOk_int (k : IntKind) : KeyOk (.int k) (Value.int k) := by
  intro a b
  by_cases h : a = b <;> simp [Instr.sameNow, h]

theorem beq_bytes (a b : ByteArray) : (a == b) = decide (a = b) := by
  show ByteArray.beq a b = _
  cases a; cases b
  simp only [ByteArray.beq, ByteArray.mk.injEq]
  rw [Bool.eq_iff_iff]; simp

theorem keyOk_str : KeyOk .string Value.string := by
  intro a b
  simp [Instr.sameNow, beq_bytes]

/-- the first entry with a key -/
def assoc (l : List (K × Value)) (k : K) : Option Value := (l.find? fun p => decide (k = p.1)).map (·.2)

/-- with a key set -/
def insA : List (K × Value) → K → Value → List (K × Value)
  | [], k, v => [(k, v)]
  | p :: l, k, v => if k = p.1 then (k, v) :: l else p :: insA l k v

/-- without a key -/
def delA : List (K × Value) → K → List (K × Value)
  | [], _ => []
  | p :: l, k => if k = p.1 then l else p :: delA l k

/-- the map r holds l, in this order -/
def MapAt (enc : K → Value) (w : World) (r : Nat) (l : List (K × Value)) : Prop :=
  ∃ es clock, w.heap[r]? = some (.map es clock) ∧ es.toList.map (fun e => (e.key, e.val)) = l.map (fun p => (enc p.1, p.2)) ∧ (es.toList.map (·.born)).Nodup ∧ ∀ e ∈ es.toList, e.born < clock

namespace MapAt
variable {enc : K → Value} {r : Nat} {l : List (K × Value)} {d : TypeDesc}

theorem lt (h : MapAt enc w r l) : r < w.heap.size := let ⟨_, _, h, _⟩ := h; lt_of_blk h
theorem fr {S : List Nat} {w' : World} (h : MapAt enc w r l) (hf : Fr S w w') (hr : r ∉ S) : MapAt enc w' r l :=
  let ⟨es, c, h1, h2⟩ := h; ⟨es, c, hf.blk h1 hr, h2⟩
theorem drew (h : MapAt enc w r l) : MapAt enc w.drew r l := h
theorem new (enc : K → Value) (w : World) : MapAt enc (w.alloc (.map #[] 0)) w.heap.size [] := ⟨#[], 0, alloc_blk_new _, rfl, by simp, by simp⟩

omit [DecidableEq K] in
theorem findNow_spec [DecidableEq K] (hk : KeyOk d enc) (k : K) : ∀ (es : List MapEntry) (l : List (K × Value)) (n : Nat), es.map (fun e => (e.key, e.val)) = l.map (fun p => (enc p.1, p.2)) →
    (∃ i v, Instr.findNow d (enc k) es n = some (some (n + i, v)) ∧ i < es.length ∧ assoc l k = some v ∧
        (∀ v', (es.modify i fun e => { e with key := enc k, val := v' }).map (fun e => (e.key, e.val)) = (insA l k v').map (fun p => (enc p.1, p.2))) ∧
        (es.eraseIdx i).map (fun e => (e.key, e.val)) = (delA l k).map (fun p => (enc p.1, p.2))) ∨
    (Instr.findNow d (enc k) es n = some none ∧ assoc l k = none ∧ (∀ v', insA l k v' = l ++ [(k, v')]) ∧ delA l k = l)
  | [], [], n, _ => .inr ⟨rfl, rfl, fun _ => rfl, rfl⟩
  | e :: es, p :: l, n, h => by
    simp only [List.map_cons, List.cons.injEq, Prod.mk.injEq] at h
    obtain ⟨⟨h1, h2⟩, h3⟩ := h
    by_cases hkp : k = p.1
    · refine .inl ⟨0, e.val, ?_, by simp, ?_, ?_, ?_⟩
      · have := hk k p.1
        simp only [hkp, decide_true] at this
        simp [Instr.findNow, h1, hkp, this]
      · simp [assoc, hkp, h2]
      · intro v'; simp [insA, hkp, h3]
      · simp [delA, hkp, h3]
    · have hf : Instr.findNow d (enc k) (e :: es) n = Instr.findNow d (enc k) es (n + 1) := by simp [Instr.findNow, h1, hk k p.1, hkp]
      rcases findNow_spec hk k es l (n + 1) h3 with ⟨i, v, g1, g2, g3, g4, g5⟩ | ⟨g1, g2, g3, g4⟩
      · refine .inl ⟨i + 1, v, ?_, by simpa using g2, ?_, ?_, ?_⟩
        · rw [hf, g1, show n + 1 + i = n + (i + 1) by omega]
        · simpa [assoc, hkp] using g3
        · intro v'; simp [insA, hkp, g4 v', h1, h2]
        · simp [delA, hkp, g5, h1, h2]
      · refine .inr ⟨hf.trans g1, ?_, ?_, ?_⟩
        · simpa [assoc, hkp] using g2
        · intro v'; simp [insA, hkp, g3 v']
        · simp [delA, hkp, g4]
  | [], _ :: _, _, h => by simp at h
  | _ :: _, [], _, h => by simp at h

theorem look (h : MapAt enc w r l) (hk : KeyOk d enc) (k : K) : mLook d w (some r) (enc k) = some (assoc l k) := by
  obtain ⟨es, c, h1, h2, _⟩ := h
  rcases findNow_spec hk k es.toList l 0 h2 with ⟨i, v, g1, _, g3, _⟩ | ⟨g1, g2, _⟩
  · simp [mLook, mEnt, h1, g1, g3]
  · simp [mLook, mEnt, h1, g1, g2]

theorem len (h : MapAt enc w r l) : mLen w (some r) = some l.length := by
  obtain ⟨es, c, h1, h2, _⟩ := h
  have := congrArg List.length h2
  simp only [List.length_map, Array.length_toList] at this
  simp [mLen, mEnt, h1, this]

omit [DecidableEq K] in
theorem setBlk_heap {o o' : Obj} (h : w.heap[r]? = some o) : (w.setBlk r o').heap[r]? = some o' := by
  simp [World.setBlk, Array.getElem?_setIfInBounds, lt_of_blk h]

omit [DecidableEq K] in
theorem fr_setBlk {o : Obj} : Fr [r] w (w.setBlk r o) :=
  ⟨rfl, rfl, rfl, by simp [World.setBlk], fun k _ hk => by
    have : r ≠ k := fun e => hk (by simp [e])
    simp [World.setBlk, Array.getElem?_setIfInBounds, this]⟩

omit [DecidableEq K] in
theorem born_modify (es : List MapEntry) (i : Nat) (g : MapEntry → MapEntry) (hg : ∀ e, (g e).born = e.born) : (es.modify i g).map (·.born) = es.map (·.born) := by
  apply List.ext_getElem
  · simp
  · intro j h1 h2
    simp only [List.getElem_map, List.getElem_modify]
    split
    · exact hg _
    · rfl

theorem upd (h : MapAt enc w r l) (hk : KeyOk d enc) (k : K) (v : Value) : ∃ w', mUpd d w (some r) (enc k) v = some w' ∧ MapAt enc w' r (insA l k v) ∧ Fr [r] w w' := by
  obtain ⟨es, c, h1, h2, h3, h4⟩ := h
  rcases findNow_spec hk k es.toList l 0 h2 with ⟨i, u, g1, g2, g3, g4, _⟩ | ⟨g1, g2, g3, _⟩
  · have hb : (es.modify i fun e => { e with key := enc k, val := v }).toList.map (·.born) = es.toList.map (·.born) := by
      rw [Array.toList_modify]; exact born_modify _ _ _ fun _ => rfl
    refine ⟨w.setBlk r (.map (es.modify i fun e => { e with key := enc k, val := v }) c), ?_, ⟨_, _, setBlk_heap h1, ?_, by rw [hb]; exact h3, ?_⟩, fr_setBlk⟩
    · simp [mUpd, h1, g1]
    · rw [← g4 v]; simp
    · intro e he
      have : e.born ∈ (es.modify i fun e => { e with key := enc k, val := v }).toList.map (·.born) := List.mem_map_of_mem he
      rw [hb, List.mem_map] at this
      obtain ⟨e', he', hee⟩ := this
      rw [← hee]; exact h4 e' he'
  · refine ⟨w.setBlk r (.map (es.push { key := enc k, val := v, born := c }) (c + 1)), ?_, ⟨_, _, setBlk_heap h1, ?_, ?_, ?_⟩, fr_setBlk⟩
    · simp [mUpd, h1, g1]
    · rw [g3]; simp [h2]
    · rw [Array.toList_push, List.map_append, List.nodup_append]
      refine ⟨h3, by simp, ?_⟩
      intro a ha b hb
      simp at hb
      rw [List.mem_map] at ha
      obtain ⟨e, he, rfl⟩ := ha
      have := h4 e he
      omega
    · intro e he
      rw [Array.toList_push, List.mem_append] at he
      rcases he with he | he
      · have := h4 e he; omega
      · simp at he; subst he; simp

theorem del (h : MapAt enc w r l) (hk : KeyOk d enc) (k : K) : ∃ w', mDel d w (some r) (enc k) = some w' ∧ MapAt enc w' r (delA l k) ∧ Fr [r] w w' := by
  obtain ⟨es, c, h1, h2, h3, h4⟩ := h
  rcases findNow_spec hk k es.toList l 0 h2 with ⟨i, u, g1, g2, g3, _, g5⟩ | ⟨g1, g2, _, g4⟩
  · have hsub : (es.eraseIdxIfInBounds i).toList.Sublist es.toList := by
      rw [Array.toList_eraseIdxIfInBounds]; exact List.eraseIdx_sublist _ _
    refine ⟨w.setBlk r (.map (es.eraseIdxIfInBounds i) c), ?_, ⟨_, _, setBlk_heap h1, ?_, h3.sublist (hsub.map _), fun e he => h4 e (hsub.subset he)⟩, fr_setBlk⟩
    · simp [mDel, h1, g1]
    · rw [← g5]; simp
  · refine ⟨w.setBlk r (.map es c), ?_, ⟨_, _, setBlk_heap h1, ?_, h3, h4⟩, fr_setBlk⟩
    · simp [mDel, h1, g1]
    · rw [g4]; exact h2
end MapAt

/-! ## what stands at a key -/
theorem assoc_insA (l : List (K × Value)) (k k' : K) (v : Value) : assoc (insA l k v) k' = if k' = k then some v else assoc l k' := by
  induction l with
  | nil => by_cases h : k' = k <;> simp [insA, assoc, h]
  | cons p l ih =>
    by_cases hp : k = p.1
    · by_cases h : k' = k
      · simp [insA, hp, assoc, h]
      · have : ¬ k' = p.1 := fun e => h (e.trans hp.symm)
        simp [insA, hp, assoc, this]
    · by_cases h : k' = p.1
      · have : ¬ k' = k := fun e => hp (e.symm.trans h)
        have h' : ¬ p.1 = k := fun e => hp e.symm
        simp [insA, hp, assoc, h, h']
      · have := ih
        simp only [assoc] at this ⊢
        simp [insA, hp, h, this]

def nodupA (l : List (K × Value)) : Prop := (l.map (·.1)).Nodup

theorem mem_insA {l : List (K × Value)} {k x : K} {v : Value} : x ∈ (insA l k v).map (·.1) ↔ x = k ∨ x ∈ l.map (·.1) := by
  induction l with
  | nil => simp [insA]
  | cons p l ih =>
    by_cases hp : k = p.1
    · simp [insA, hp]
    · simp only [insA, hp, if_false, List.map_cons, List.mem_cons, ih]
      constructor <;> (rintro (h | h | h) <;> simp [h])

theorem nodup_insA {l : List (K × Value)} {k : K} {v : Value} (h : nodupA l) : nodupA (insA l k v) := by
  unfold nodupA at *
  induction l with
  | nil => simp [insA]
  | cons p l ih =>
    simp only [List.map_cons, List.nodup_cons] at h
    by_cases hp : k = p.1
    · simp only [insA, hp, if_true, List.map_cons, List.nodup_cons]; exact h
    · simp only [insA, hp, if_false, List.map_cons, List.nodup_cons]
      refine ⟨fun hm => ?_, ih h.2⟩
      rcases mem_insA.1 hm with e | e
      · exact hp e.symm
      · exact h.1 e

theorem mem_delA {l : List (K × Value)} {k x : K} (hx : x ∈ (delA l k).map (·.1)) : x ∈ l.map (·.1) := by
  induction l with
  | nil => simp [delA] at hx
  | cons p l ih =>
    by_cases hp : k = p.1
    · simp only [delA, hp, if_true] at hx; simp only [List.map_cons, List.mem_cons]; exact .inr hx
    · simp only [delA, hp, if_false, List.map_cons, List.mem_cons] at hx ⊢
      rcases hx with e | e
      · exact .inl e
      · exact .inr (ih e)

theorem nodup_delA {l : List (K × Value)} {k : K} (h : nodupA l) : nodupA (delA l k) := by
  unfold nodupA at *
  induction l with
  | nil => simp [delA]
  | cons p l ih =>
    simp only [List.map_cons, List.nodup_cons] at h
    by_cases hp : k = p.1
    · simp only [delA, hp, if_true]; exact h.2
    · simp only [delA, hp, if_false, List.map_cons, List.nodup_cons]
      exact ⟨fun hm => h.1 (mem_delA hm), ih h.2⟩

theorem assoc_none {l : List (K × Value)} {k : K} (h : k ∉ l.map (·.1)) : assoc l k = none := by
  induction l with
  | nil => rfl
  | cons p l ih =>
    simp only [List.map_cons, List.mem_cons, not_or] at h
    have := ih h.2
    simp only [assoc] at this ⊢
    simp [h.1, this]

theorem assoc_delA {l : List (K × Value)} (hn : nodupA l) (k k' : K) : assoc (delA l k) k' = if k' = k then none else assoc l k' := by
  induction l with
  | nil => simp [delA, assoc]
  | cons p l ih =>
    unfold nodupA at hn
    simp only [List.map_cons, List.nodup_cons] at hn
    by_cases hp : k = p.1
    · by_cases h : k' = k
      · simp only [delA, hp, if_true]
        rw [assoc_none (by rw [h, hp]; exact hn.1)]; simp [h, hp]
      · have : ¬ k' = p.1 := fun e => h (e.trans hp.symm)
        simp [delA, hp, assoc, this]
    · have := ih hn.2
      simp only [assoc] at this ⊢
      by_cases h : k' = p.1
      · have h' : ¬ p.1 = k := fun e => hp e.symm
        simp [delA, hp, h, h']
      · simp [delA, hp, h, this]
end Go.Ev
