/-
  Lb7: lemmas on what Go functions of this seat come to (for whatever arguments, as each says). No condition but those that stand in each lemma.
-/
import Derived.Test.YtjcenfgmpbeldaaLb6
import Derived.Maps.RangeRun
namespace Go.Ev
open Go
set_option linter.unusedSimpArgs false
set_option linter.unusedVariables false
set_option linter.unusedSectionVars false
variable {P : Program} {w : World} {K : Type} [DecidableEq K] {enc : K → Value} {l : List (K × Value)}

/-! ## a loop over a map: vis are the places of the entries that were met -/
/-- the iterator it over the map r, that holds l -/
def Iter (enc : K → Value) (w : World) (it r : Nat) (l : List (K × Value)) (vis : List Nat) : Prop :=
  ∃ es clock, w.heap[r]? = some (.map es clock) ∧ es.toList.map (fun e => (e.key, e.val)) = l.map (fun p => (enc p.1, p.2)) ∧ (es.toList.map (·.born)).Nodup ∧ (∀ e ∈ es.toList, e.born < clock) ∧
    w.heap[it]? = some (.mapIter (some r) clock (vis.map fun i => (es.toList.map (·.born)).getD i 0).toArray clock) ∧ vis.Nodup ∧ ∀ i ∈ vis, i < l.length

theorem Iter.map {it r : Nat} {vis : List Nat} (h : Iter enc w it r l vis) : MapAt enc w r l := let ⟨es, c, h1, h2, h3, h4, _⟩ := h; ⟨es, c, h1, h2, h3, h4⟩

theorem Iter.fr {it r : Nat} {vis : List Nat} {S : List Nat} {w' : World} (h : Iter enc w it r l vis) (hf : Fr S w w') (h1 : it ∉ S) (h2 : r ∉ S) : Iter enc w' it r l vis :=
  let ⟨es, c, g1, g2, g3, g4, g5, g6⟩ := h; ⟨es, c, hf.blk g1 h2, g2, g3, g4, hf.blk g5 h1, g6⟩
theorem Iter.lt {it r : Nat} {vis : List Nat} (h : Iter enc w it r l vis) : it < w.heap.size ∧ r < w.heap.size := let ⟨es, c, g1, g2, g3, g4, g5, g6⟩ := h; ⟨lt_of_blk g5, lt_of_blk g1⟩
theorem Iter.vlen {it r : Nat} {vis : List Nat} (h : Iter enc w it r l vis) : vis.length ≤ l.length := by
  obtain ⟨es, c, g1, g2, g3, g4, g5, g6, g7⟩ := h
  have := List.Nodup.length_le_of_subset (l₂ := List.range l.length) g6 fun i hi => List.mem_range.2 (g7 i hi)
  simpa using this

theorem iter_range {T kt vt : TypeId} {r : Nat} (hT : P.underlying T = some (.map kt vt)) (h : MapAt enc w r l) :
    ∃ w', semR P (Instr.range T (.map (some r))) w = some (.pointer (some ⟨w.heap.size, 0, none⟩), w') ∧ Iter enc w' w.heap.size r l [] ∧ Fr [] w w' := by
  obtain ⟨es, c, h1, h2, h3, h4⟩ := h
  refine ⟨w.alloc (.mapIter (some r) c #[] c), ?_, ⟨es, c, alloc_blk h1, h2, h3, h4, alloc_blk_new _, by simp, by simp⟩, Fr.alloc _⟩
  unfold semR
  rw [run_range_map w T kt vt r es c hT h1]

theorem fr_setBlock {r : Nat} {o : Obj} : Fr [r] w (ChangeMaps.setBlock w r o) :=
  ⟨rfl, rfl, rfl, by simp [ChangeMaps.setBlock], fun k _ hk => by
    have : r ≠ k := fun e => hk (by simp [e])
    simp [ChangeMaps.setBlock, Array.getElem?_setIfInBounds, this]⟩

theorem iter_next {it r : Nat} {vis : List Nat} (h : Iter enc w it r l vis) (hne : it ≠ r) (t : TypeId) :
    (vis.length = l.length ∧ semR P (Instr.next (.pointer (some ⟨it, 0, none⟩)) false t) w = some (.tuple #[.bool false], w)) ∨
    (vis.length < l.length ∧ ∃ (i : Nat) (hi : i < l.length) (w' : World), i ∉ vis ∧ semR P (Instr.next (.pointer (some ⟨it, 0, none⟩)) false t) w = some (.tuple #[.bool true, enc l[i].1, l[i].2], w') ∧ Iter enc w' it r l (vis ++ [i]) ∧ Fr [it] w w' ∧
      semR P (Instr.entry (.pointer (some ⟨it, 0, none⟩))) w' = some (.tuple #[enc l[i].1, l[i].2], w')) := by
  have hvl := h.vlen
  obtain ⟨es, c, g1, g2, g3, g4, g5, g6, g7⟩ := h
  have hlen : es.toList.length = l.length := by have := congrArg List.length g2; simpa using this
  have hborn : ∀ i (hi : i < l.length), (es.toList.map (·.born)).getD i 0 = (es.toList[i]'(by omega)).born := by
    intro i hi
    rw [getD_lt (by rw [List.length_map]; omega), List.getElem_map]
  rcases run_next_at (P := P) w t it r c c _ es c g5 g1 g4 (Nat.le_refl _) with ⟨h1, h2⟩ | ⟨e, he, w1, hw1, h2⟩
  · left
    refine ⟨?_, by unfold semR; rw [h2]⟩
    -- all are met
    have hall : ∀ i, i < l.length → i ∈ vis := by
      intro i hi
      rcases Classical.em (i ∈ vis) with hv | hv
      · exact hv
      · exfalso
        have : (es.toList[i]'(by omega)) ∈ (leftOf es (vis.map fun i => (es.toList.map (·.born)).getD i 0).toArray).toList := by
          unfold leftOf
          rw [Array.toList_filter, List.mem_filter]
          refine ⟨List.getElem_mem _, ?_⟩
          simp only [Bool.not_eq_eq_eq_not, Bool.not_true, List.contains_toArray]
          rw [Bool.eq_false_iff]
          intro hc
          simp only [List.contains_eq_mem, List.mem_map, decide_eq_true_eq] at hc
          obtain ⟨j, hj, hjb⟩ := hc
          rw [hborn j (g7 j hj)] at hjb
          have hj' := g7 j hj
          have := (List.getElem_inj (i := j) (j := i) (h₀ := by rw [List.length_map]; omega) (h₁ := by rw [List.length_map]; omega) g3).1 (by simp only [List.getElem_map]; exact hjb)
          subst this; exact hv hj
        have h3 := List.length_pos_of_mem this
        rw [Array.length_toList] at h3
        omega
    have := List.Nodup.length_le_of_subset (l₂ := vis) (List.nodup_range (n := l.length)) fun i hi => hall i (List.mem_range.1 hi)
    simp at this; omega
  · right
    unfold leftOf at he
    rw [Array.toList_filter, List.mem_filter] at he
    obtain ⟨he1, he2⟩ := he
    obtain ⟨i, hi, rfl⟩ := List.getElem_of_mem he1
    have hi' : i < l.length := by omega
    have hv : i ∉ vis := by
      intro hv
      simp only [Bool.not_eq_eq_eq_not, Bool.not_true, List.contains_toArray] at he2
      rw [Bool.eq_false_iff] at he2
      apply he2
      simp only [List.contains_eq_mem, List.mem_map, decide_eq_true_eq]
      exact ⟨i, hv, hborn i hi'⟩
    have hpair : (es.toList[i].key, es.toList[i].val) = (enc l[i].1, l[i].2) := by
      have e1 : (es.toList.map (fun e => (e.key, e.val)))[i]'(by simpa using hi) = (l.map (fun p => (enc p.1, p.2)))[i]'(by simpa using hi') := by simp only [g2]
      simpa using e1
    have hk : es.toList[i].key = enc l[i].1 := congrArg Prod.fst hpair
    have hvv : es.toList[i].val = l[i].2 := congrArg Prod.snd hpair
    have gw1 : w1.heap = w.heap := by rcases hw1 with rfl | rfl <;> rfl
    have f1 : Fr [] w w1 := by
      rcases hw1 with rfl | rfl
      · exact Fr.refl _ _
      · exact Fr.drew _ _
    have hseen : ((vis.map fun i => (es.toList.map (·.born)).getD i 0).toArray.push es.toList[i].born) = ((vis ++ [i]).map fun i => (es.toList.map (·.born)).getD i 0).toArray := by
      rw [List.map_append, ← hborn i hi']; simp
    have hit : (ChangeMaps.setBlock w1 it (.mapIter (some r) c ((vis.map fun i => (es.toList.map (·.born)).getD i 0).toArray.push es.toList[i].born) c)).heap[it]? = some (.mapIter (some r) c ((vis.map fun i => (es.toList.map (·.born)).getD i 0).toArray.push es.toList[i].born) c) := by
      have : it < w1.heap.size := by rw [gw1]; exact lt_of_blk g5
      simp [ChangeMaps.setBlock, Array.getElem?_setIfInBounds, this]
    have hr : (ChangeMaps.setBlock w1 it (.mapIter (some r) c ((vis.map fun i => (es.toList.map (·.born)).getD i 0).toArray.push es.toList[i].born) c)).heap[r]? = some (.map es c) := by
      simp [ChangeMaps.setBlock, Array.getElem?_setIfInBounds, hne, gw1, g1]
    have hen := run_entry_at (P := P) _ it r c _ es c _ hit hr he1 g3
    refine ⟨?_, i, hi', _, hv, ?_, ⟨es, c, hr, g2, g3, g4, ?_, ?_, ?_⟩, (f1.nil.trans fr_setBlock), ?_⟩
    · have := List.Nodup.length_le_of_subset (l₁ := vis ++ [i]) (l₂ := List.range l.length) (by
        rw [List.nodup_append]
        exact ⟨g6, by simp, fun a ha b hb => by simp at hb; subst hb; intro e; subst e; exact hv ha⟩) fun j hj => by
          rw [List.mem_append] at hj
          rw [List.mem_range]
          rcases hj with hj | hj
          · exact g7 j hj
          · simp at hj; subst hj; exact hi'
      simp at this; omega
    · unfold semR
      rw [h2, hk, hvv]
    · rw [hit, hseen]
    · rw [List.nodup_append]
      exact ⟨g6, by simp, fun a ha b hb => by simp at hb; subst hb; intro e; subst e; exact hv ha⟩
    · intro j hj
      rw [List.mem_append] at hj
      rcases hj with hj | hj
      · exact g7 j hj
      · simp at hj; subst hj; exact hi'
    · unfold semR
      rw [hen, hk, hvv]

/-- when all were met the places are all there are -/
theorem Iter.all {it r : Nat} {vis : List Nat} (h : Iter enc w it r l vis) (hl : vis.length = l.length) : ∀ i, i < l.length → i ∈ vis := by
  obtain ⟨es, c, g1, g2, g3, g4, g5, g6, g7⟩ := h
  intro i hi
  rcases Classical.em (i ∈ vis) with hv | hv
  · exact hv
  · have := List.Nodup.length_le_of_subset (l₁ := vis ++ [i]) (l₂ := List.range l.length) (by
      rw [List.nodup_append]
      exact ⟨g6, by simp, fun a ha b hb => by simp at hb; subst hb; intro e; subst e; exact hv ha⟩) fun j hj => by
        rw [List.mem_append] at hj
        rw [List.mem_range]
        rcases hj with hj | hj
        · exact g7 j hj
        · simp at hj; subst hj; exact hi
    simp at this; omega

@[simp] theorem asNext_f : asNext (.tuple #[.bool false]) = some none := id rfl
@[simp] theorem asNext_t (k v : Value) : asNext (.tuple #[.bool true, k, v]) = some (some (k, v)) := id rfl
@[simp] theorem onNext_n {β : Type} (a : Option β) (b : Value → Value → Option β) : onNext none a b = a := id rfl
@[simp] theorem onNext_s {β : Type} (q : Value × Value) (a : Option β) (b : Value → Value → Option β) : onNext (some q) a b = b q.1 q.2 := id rfl

/-! ## append, for whatever elements -/
/-- t is a slice's type, of elements e of n cells -/
structure TSl (P : Program) (t e : TypeId) (n bytes : Nat) : Prop where
  und : P.underlying t = some (.slice e)
  inf : ∃ i z, P.info? e = some i ∧ i.zero = some z ∧ i.size = n ∧ i.bytes = bytes ∧ z.cells.size = n

theorem tsl_of {P : Program} {t e : TypeId} {n bytes : Nat} (h1 : P.underlying t = some (.slice e))
    (h2 : (match P.info? e with | some i => (decide (i.size = n) && decide (i.bytes = bytes) && (match i.zero with | some z => decide (z.cells.size = n) | none => false)) | none => false) = true) : TSl P t e n bytes := by
  refine ⟨h1, ?_⟩
  cases hi : P.info? e with
  | none => rw [hi] at h2; cases h2
  | some i =>
    rw [hi] at h2
    cases hz : i.zero with
    | none => simp [hz] at h2
    | some z => simp [hz] at h2; exact ⟨i, z, rfl, hz, h2.1.1, h2.1.2, h2.2⟩

theorem app_sl {t e : TypeId} {n bytes : Nat} (T : TSl P t e n bytes) {v u : Option Addr × Nat × Nat} {xs ys : List Value} (h : Own w e n v xs) (hu : SlC w n u ys) (h1 : ∀ y ∈ ys, y.oneCell' = true)
    (hl : v.2.1 + u.2.1 ≤ maxLen) (hb : (v.2.1 + u.2.1) * bytes ≤ 140737488355328) (ty : TypeId) (cs : Array Bool) :
    ∃ v' w', callB P .append #[t, t] ty cs #[.slice v.1 v.2.1 v.2.2, .slice u.1 u.2.1 u.2.2] w = some (.slice v'.1 v'.2.1 v'.2.2, w') ∧ Own w' e n v' (xs ++ ys) ∧ Fr (blkOf v) w w' ∧ (∀ y ∈ blkOf v', y ∈ blkOf v ∨ w.heap.size ≤ y) ∧ v'.2.1 = v.2.1 + u.2.1 := by
  obtain ⟨i, z, hi, hz, g1, g2, g3⟩ := T.inf
  obtain ⟨v', w', e, hl', o, f, hv⟩ := callB_append (P := P) (t := t) (tx := t) (ty := ty) (consts := cs) T.und hi hz g1 g2 g3 (d := .slice e) T.und (by intro k hk; cases hk) h
    (x := .slice u.1 u.2.1 u.2.2) (m := u.2.1) (news := ys) rfl hu.1
    (fun w' hw' => by
      have := SlC.firstCells (P := P) (w' := w') hu (m := u.2.1) (by rw [hu.1]; exact Nat.le_refl _) hw'
      rw [← hu.1, List.take_length] at this
      exact this) h1 hl hb
  refine ⟨v', w', e, o, f, ?_, hl'⟩
  intro y hy
  rcases hv with hv | hv
  · left; simp only [blkOf] at hy ⊢; rw [hv.1] at hy; exact hy
  · right; rw [hv] at hy; simp at hy; omega

/-- append of one element, given by its cells -/
theorem app_one {t e : TypeId} {n bytes : Nat} (T : TSl P t e n bytes) {v : Option Addr × Nat × Nat} {xs ys : List Value} (h : Own w e n v xs) (hy : ys.length = n) (h1 : ∀ y ∈ ys, y.oneCell' = true)
    (hl : v.2.1 + 1 ≤ maxLen) (hb : (v.2.1 + 1) * bytes ≤ 140737488355328) (ty : TypeId) (cs : Array Bool) :
    ∃ v' w', callB P .append #[t, t] ty cs #[.slice v.1 v.2.1 v.2.2, .slice (some ⟨w.heap.size, 0, none⟩) 1 1] (w.alloc (.cells ys.toArray e)) = some (.slice v'.1 v'.2.1 v'.2.2, w') ∧ Own w' e n v' (xs ++ ys) ∧ Fr (blkOf v) w w' ∧
      (∀ y ∈ blkOf v', y ∈ blkOf v ∨ w.heap.size ≤ y) ∧ v'.2.1 = v.2.1 + 1 := by
  have f0 : Fr [] w (w.alloc (.cells ys.toArray e)) := Fr.alloc _
  have hn := Blk.new w ys e
  have hs : SlC (w.alloc (.cells ys.toArray e)) n (some ⟨w.heap.size, 0, none⟩, 1, 1) ys := ⟨by simp [hy], fun _ => ⟨w.heap.size, 0, rfl, hn.lt, fun j hj => by
    rw [hn.cell]; simp [hj]⟩⟩
  have hsz : (w.alloc (.cells ys.toArray e)).heap.size = w.heap.size + 1 := Array.size_push _
  have h' := h.fr f0 (by simp)
  generalize w.alloc (.cells ys.toArray e) = w1 at *
  obtain ⟨v', w', e, o, f, hv, hl'⟩ := app_sl T h' hs h1 hl hb ty cs
  have z0 := f0.size
  have z1 := f.size
  refine ⟨v', w', e, o, (f0.app f).mono (by intro y hy _; simpa using hy), fun y hy => ?_, hl'⟩
  rcases hv y hy with hh | hh
  · exact .inl hh
  · right; omega

/-- a fresh copy, by append to nil -/
theorem app_nil {t e : TypeId} {n bytes : Nat} (T : TSl P t e n bytes) {u : Option Addr × Nat × Nat} {ys : List Value} (hu : SlC w n u ys) (h1 : ∀ y ∈ ys, y.oneCell' = true)
    (hl : u.2.1 ≤ maxLen) (hb : u.2.1 * bytes ≤ 140737488355328) (ty : TypeId) (cs : Array Bool) :
    ∃ v' w', callB P .append #[t, t] ty cs #[.slice none 0 0, .slice u.1 u.2.1 u.2.2] w = some (.slice v'.1 v'.2.1 v'.2.2, w') ∧ Own w' e n v' ys ∧ Fr [] w w' ∧ (∀ y ∈ blkOf v', w.heap.size ≤ y) ∧ v'.2.1 = u.2.1 := by
  obtain ⟨v', w', e, o, f, hv, hl'⟩ := app_sl T (Own.nil w e n) hu h1 (by simpa using hl) (by simpa using hb) ty cs
  refine ⟨v', w', e, by simpa using o, f, fun y hy => ?_, by simpa using hl'⟩
  rcases hv y hy with hh | hh
  · simp [blkOf] at hh
  · exact hh

/-- a fresh copy, by append to an empty slice that was made for it -/
theorem app_empty {t e : TypeId} {n bytes : Nat} (T : TSl P t e n bytes) {u : Option Addr × Nat × Nat} {ys : List Value} (hu : SlC w n u ys) (h1 : ∀ y ∈ ys, y.oneCell' = true)
    (hl : u.2.1 ≤ maxLen) (hb : u.2.1 * bytes ≤ 140737488355328) (ty : TypeId) (cs : Array Bool) :
    ∃ v' w', callB P .append #[t, t] ty cs #[.slice (some ⟨w.heap.size, 0, none⟩) 0 0, .slice u.1 u.2.1 u.2.2] (w.alloc (.cells #[] e)) = some (.slice v'.1 v'.2.1 v'.2.2, w') ∧ Own w' e n v' ys ∧ Fr [] w w' ∧ (∀ y ∈ blkOf v', w.heap.size ≤ y) ∧ v'.2.1 = u.2.1 := by
  have f0 : Fr [] w (w.alloc (.cells #[] e)) := Fr.alloc _
  have hsz : (w.alloc (.cells #[] e)).heap.size = w.heap.size + 1 := Array.size_push _
  have o0 : Own (w.alloc (.cells #[] e)) e n (some ⟨w.heap.size, 0, none⟩, 0, 0) [] := ⟨by simp, Nat.le_refl _, Nat.zero_le _, .inr ⟨w.heap.size, 0, #[], rfl, alloc_blk_new _, by simp, by simp⟩⟩
  have hu' := hu.fr f0 (by simp)
  generalize w.alloc (.cells #[] e) = w1 at *
  obtain ⟨v', w', e, o, f, hv, hl'⟩ := app_sl T o0 hu' h1 (by simpa using hl) (by simpa using hb) ty cs
  refine ⟨v', w', e, by simpa using o, (f0.app f).mono (by intro y hy hlt; simp [blkOf] at hy; omega), fun y hy => ?_, by simpa using hl'⟩
  rcases hv y hy with hh | hh
  · simp [blkOf] at hh; omega
  · omega

/-! ## delete -/
theorem callB_delete {T kt vt t2 ty : TypeId} {d : TypeDesc} {r : Nat} {cs : Array Bool} (hT : P.underlying T = some (.map kt vt)) (hd : P.underlying kt = some d) (hp : plainKey d = true) (hk : KeyOk d enc) (h : MapAt enc w r l) (k : K) :
    ∃ w', callB P .delete #[T, t2] ty cs #[.map (some r), enc k] w = some (.tuple #[], w') ∧ MapAt enc w' r (delA l k) ∧ Fr [r] w w' := by
  obtain ⟨w', e, m, f⟩ := h.del hk k
  refine ⟨w', ?_, m, f⟩
  obtain ⟨es, c, h1, h2, _⟩ := h
  unfold mDel at e
  simp only [h1] at e
  have hrun : (Builtin.delete_ #[T, t2] ty #[.map (some r), enc k]).run P w = .ok (.tuple #[]) w' := by
    split at e
    · rename_i i v hf
      simp only [Option.some.injEq] at e
      simp [Builtin.delete_, run_underlying hT, run_getMap h1, checkKey_plain hd hp, findKey_ok hd hf, run_setMap h1, ← e]
    · rename_i hf
      simp only [Option.some.injEq] at e
      simp [Builtin.delete_, run_underlying hT, run_getMap h1, checkKey_plain hd hp, findKey_ok hd hf, run_setMap h1, ← e]
    · cases e
  simp [callB, Go.builtin, hrun, nextR]

/-! ## texts -/
theorem toList_loop (bs : ByteArray) : ∀ (n i : Nat) (r : List UInt8), bs.size - i = n → ByteArray.toList.loop bs i r = r.reverse ++ bs.data.toList.drop i
  | 0, i, r, h => by
    unfold ByteArray.toList.loop
    have h1 : ¬ i < bs.size := by omega
    rw [if_neg h1, List.drop_eq_nil_of_le (by rw [Array.length_toList]; exact Nat.not_lt.1 h1), List.append_nil]
  | n + 1, i, r, h => by
    unfold ByteArray.toList.loop
    have h1 : i < bs.size := by omega
    have h2 : i < bs.data.toList.length := by rw [Array.length_toList]; exact h1
    rw [if_pos h1, toList_loop bs n (i + 1) _ (by omega), List.drop_eq_getElem_cons h2, List.reverse_cons, List.append_assoc]
    congr 1
    simp only [List.singleton_append, List.cons.injEq, and_true]
    show bs.data[i]! = _
    rw [getElem!_pos bs.data i h1]
    simp
theorem toList_data (bs : ByteArray) : bs.toList = bs.data.toList := by
  unfold ByteArray.toList
  rw [toList_loop bs bs.size 0 [] rfl]; simp
theorem str_eq (a b : ByteArray) : (a.toList == b.toList) = decide (a = b) := by
  rw [toList_data, toList_data]
  cases a with | mk a => cases b with | mk b =>
  rw [Bool.eq_iff_iff]
  simp
theorem str_empty (a : ByteArray) : (a.toList == (⟨#[]⟩ : ByteArray).toList) = decide (a.size = 0) := by
  rw [str_eq]
  cases a with | mk a =>
  rw [Bool.eq_iff_iff]
  simp [ByteArray.size]
end Go.Ev
