/-
  TxnNe: lemmas on what Go functions of this seat come to (for whatever arguments, as each says). No condition but those that stand in each lemma.
-/
import Derived.Test.YtlcojbodcbjkaaaTxnNw
import Derived.Test.YtlcojbodcbjkaaaTxnNd
namespace Go.Proofs.Ytlcojbodcbjkaaa
open Go Go.Ev
set_option maxRecDepth 100000
set_option linter.unusedVariables false
set_option linter.unusedSimpArgs false

abbrev RT : Ty := .cons (.int .i64) (.cons (.int .i64) (.cons (.int .i64) (.cons (.int .u64) (.cons (.int .i64) (.cons (.slice (.int .i64)) (.cons .bool .nil))))))
def toR (x : RT.Val) : RV := ⟨x.1, x.2.1, x.2.2.1, x.2.2.2.1, x.2.2.2.2.1, x.2.2.2.2.2.1.2, x.2.2.2.2.2.2.1⟩
def rqOf (x : RT.Val) : Sh := x.2.2.2.2.2.1.1

theorem rec_at {w : World} {x0 : (Ty.slice RT).Val} (h0 : (Ty.slice RT).At w [.slice x0.1.1 x0.1.2.1 x0.1.2.2] x0) {k : Nat} (hk : k < x0.2.length) :
    (∃ a, idxA x0.1.1 x0.1.2.1 7 (k : Int) = some a ∧ ldN w a 0 7 = some ((toR x0.2[k]).cs (rqOf x0.2[k])) ∧ w.cell? (a.add 1) = some (.int .i64 (toR x0.2[k]).tx)) ∧ SlC w 1 (rqOf x0.2[k]) (intsV' (toR x0.2[k]).parts) := by
  obtain ⟨a, cs, i1, g1, g2, g3⟩ := slice_get h0 hk
  have esz : Ty.size RT = 7 := rfl
  rw [esz] at i1
  have hl : cs.length = 7 := g1
  generalize x0.2[k] = x at *
  have l1 := g2.ldN hl
  have c1 := g2 1 (by omega)
  obtain ⟨e1, k1, rfl, _, ⟨rfl, _⟩, e2, k2, rfl, _, ⟨rfl, _⟩, e3, k3, rfl, _, ⟨rfl, _⟩, e4, k4, rfl, _, ⟨rfl, _⟩, e5, k5, rfl, _, ⟨rfl, _⟩, e6, k6, rfl, _, hs, e7, k7, rfl, _, rfl, rfl⟩ := g3
  obtain ⟨rfl, hs2⟩ := hs
  have h2 : (Ty.slice (.int .i64)).At w [.slice (rqOf x).1 (rqOf x).2.1 (rqOf x).2.2] (rqOf x, (toR x).parts) := ⟨rfl, hs2⟩
  exact ⟨⟨a, i1, l1, c1⟩, (slI_of_at h2).1.slC⟩

theorem bulk_sl (q : Sh) (l : List Int) : (Ty.slice (.int .i64)).bulk (q, l) = l.length + 1 := by
  have : ∀ l : List Int, (l.map (Ty.int .i64).bulk).sum = l.length := by
    intro l
    induction l with
    | nil => rfl
    | cons a l ih =>
      have h1 : (Ty.int .i64).bulk a = 1 := rfl
      rw [List.map_cons, List.sum_cons, ih, List.length_cons, h1]; omega
  have h := this l
  show (l.map (Ty.int .i64).bulk).sum + 1 = l.length + 1
  rw [h]
theorem bulk_rec (x : RT.Val) : (toR x).parts.length + 1 ≤ RT.bulk x := by
  rw [← bulk_sl (rqOf x) (toR x).parts]
  have : RT.bulk x = (Ty.int .i64).bulk x.1 + ((Ty.int .i64).bulk x.2.1 + ((Ty.int .i64).bulk x.2.2.1 + ((Ty.int .u64).bulk x.2.2.2.1 + ((Ty.int .i64).bulk x.2.2.2.2.1 + ((Ty.slice (.int .i64)).bulk (rqOf x, (toR x).parts) + (Ty.bool.bulk x.2.2.2.2.2.2.1 + 0)))))) := rfl
  omega
/-- what has come in so far -/
def wtR (l : List RT.Val) (k : Nat) : Nat := ((l.take k).map RT.bulk).sum
theorem wtR_succ (l : List RT.Val) {k : Nat} (hk : k < l.length) : wtR l (k + 1) = wtR l k + RT.bulk l[k] := by
  unfold wtR
  rw [List.take_succ_eq_append_getElem hk, List.map_append, List.sum_append]
  simp
theorem wtR_le (l : List RT.Val) {k : Nat} (hk : k ≤ l.length) : wtR l k ≤ (l.map RT.bulk).sum ∧ k ≤ wtR l k := by
  have mono : ∀ d k, k + d = l.length → wtR l k ≤ wtR l l.length := by
    intro d
    induction d with
    | zero => intro k hk; rw [← hk]; exact Nat.le_refl _
    | succ d ih =>
      intro k hk
      have h1 := ih (k + 1) (by omega)
      have h2 := wtR_succ l (k := k) (by omega)
      omega
  have h1 := mono (l.length - k) k (by omega)
  have h2 : wtR l l.length = (l.map RT.bulk).sum := by unfold wtR; rw [List.take_length]
  refine ⟨by omega, ?_⟩
  clear h1 h2 mono
  induction k with
  | zero => omega
  | succ k ih =>
    have := ih (by omega)
    have h2 := wtR_succ l (k := k) (by omega)
    have := bulk_rec (l[k]'(by omega))
    omega

theorem tvOf_apA (A : List (Int × TV)) (r : RV) (n : Int) : tvOf (apA A r) n = if n = r.tx then stepT r (tvOf A n) else tvOf A n := by
  unfold tvOf apA
  rw [kget_ups]
  by_cases h : n = r.tx
  · rw [if_pos h, if_pos h, h]; rfl
  · rw [if_neg h, if_neg h]

/-! ## the keys of the table -/
def keysA (A : List (Int × TV)) : List Int := A.map (·.1)
theorem keys_apA (A : List (Int × TV)) (r : RV) : keysA (apA A r) = if r.tx ∈ keysA A then keysA A else keysA A ++ [r.tx] := by
  unfold apA keysA
  induction A with
  | nil => simp [kups]
  | cons e A ih =>
    unfold kups
    by_cases h : r.tx = e.1
    · rw [if_pos h]; simp [h]
    · rw [if_neg h, List.map_cons, ih, List.map_cons]
      by_cases h2 : r.tx ∈ A.map (·.1)
      · rw [if_pos h2, if_pos (by simp [h, h2])]
      · rw [if_neg h2, if_neg (by simp [h]; simpa using h2)]
        simp [h2]
theorem keysA_len (A : List (Int × TV)) : (keysA A).length = A.length := by simp [keysA]
theorem keys_mem (A : List (Int × TV)) (r : RV) (n : Int) : n ∈ keysA (apA A r) ↔ n ∈ keysA A ∨ n = r.tx := by
  rw [keys_apA]
  split
  · rename_i h
    constructor
    · exact .inl
    · rintro (h' | rfl)
      · exact h'
      · exact h
  · simp
theorem keys_nodup {A : List (Int × TV)} (h : (keysA A).Nodup) (r : RV) : (keysA (apA A r)).Nodup := by
  rw [keys_apA]
  split
  · exact h
  · rename_i c
    rw [List.nodup_append]
    refine ⟨h, by simp, ?_⟩
    intro a ha b hb
    simp at hb
    subst hb
    intro e
    exact c (e ▸ ha)
theorem apA_len (A : List (Int × TV)) (r : RV) : (apA A r).length ≤ A.length + 1 := by
  rw [← keysA_len, keys_apA, ← keysA_len A]
  split <;> simp
theorem stepT_len (r : RV) (t : TV) : (stepT r t).parts.length ≤ t.parts.length + r.parts.length := by
  unfold stepT
  have h1 := addAll_len t.parts r.parts
  have h2 : (isort (addAll t.parts r.parts)).length = (addAll t.parts r.parts).length := (isort_perm _).length_eq
  split
  · simp
  · split
    · simp only; omega
    · split
      · simp
      · split <;> simp
theorem tv_len {A : List (Int × TV)} {S : Nat} (h : ∀ n, (tvOf A n).parts.length ≤ S) (r : RV) : ∀ n, (tvOf (apA A r) n).parts.length ≤ S + r.parts.length := by
  intro n
  unfold tvOf apA
  rw [kget_ups]
  by_cases e : n = r.tx
  · rw [if_pos e]
    have h1 := h r.tx
    unfold tvOf at h1
    have := stepT_len r ((kget A r.tx).getD tv0)
    simp only [Option.getD_some]
    omega
  · rw [if_neg e]
    have h1 := h n
    unfold tvOf at h1
    omega

/-- does the document know the name? -/
theorem has26 {w : World} {x0 : (Ty.slice RT).Val} (h0 : (Ty.slice RT).At w [.slice x0.1.1 x0.1.2.1 x0.1.2.2] x0) {n : Int} (hn : ∃ k, ∃ h : k < x0.2.length, (toR x0.2[k]).tx = n) :
    callF Try.prog 26 #[.slice x0.1.1 x0.1.2.1 x0.1.2.2, .int .i64 n] w = some (.bool true, w) := by
  have hml : maxLen = 9223372036854775807 := by decide
  have hl1 : x0.2.length = x0.1.2.1 := h0.2.1
  have hl2 : x0.1.2.1 ≤ x0.1.2.2 := h0.2.2.1
  have hl3 : x0.1.2.2 ≤ maxLen := h0.2.2.2.1
  obtain ⟨e, t, w', g, rfl, ht, rfl⟩ := loopS_rule (b := g26_l1_b x0.1 n) (I := fun k s x => s = (false, (k : Int)) ∧ x = w ∧ ∀ j, ∀ h : j < x0.2.length, j < k → (toR x0.2[j]).tx ≠ n) (Q := fun e s x => e = .ret ∧ s.1 = true ∧ x = w) (n := x0.2.length)
    (fun k s x hk ⟨hs, hx, hj⟩ => by
      subst hs hx
      obtain ⟨⟨a, i1, l1, c1⟩, _⟩ := rec_at h0 hk
      have k1 : decide ((k : Int) < (x0.1.2.1 : Int)) = true := by simp; omega
      have hw := wrap_succ (n := k) (by omega)
      by_cases hh : (toR x0.2[k]).tx = n
      · refine ⟨.ret, (true, (k : Int)), x, ?_, .inr ⟨by simp, rfl, rfl, rfl⟩⟩
        have k2 : ((toR x0.2[k]).tx == n) = true := by simp [hh]
        unfold g26_l1_b
        simp only [k1, i1, c1, k2, obs, asP_pointer, asB_bool, asI_int, asS_string, asSl_slice, asM_map, asTup0, asTup1, asTup2, asTup3, asTup4, asTup5, asTup6, asTup7, asTup8, asTup9, asAgg2, asAgg3, asAgg4, asAgg5, asAgg6, asAgg7, asAgg8, asAgg9, asAgg12, getD0, getD1, getD2, getD3, getD4, getD5, getD6, getD7, getD8, getD9, getD10, getD11, getD12, getD13, getD14, getD15, getD16, getD17, getD18, getD19, Bool.not_true, Bool.not_false, Bool.false_eq_true, Bool.true_eq_false, ↓reduceIte, decide_true, decide_false, Option.isNone_some, Option.isNone_none, Option.isSome_some, Option.isSome_none, beq_self_eq_true, bne_self_eq_false, Bool.and_true, Bool.true_and, Bool.and_false, Bool.false_and, not_true_eq_false, not_false_eq_true]
      · refine ⟨.normal, (false, ((k + 1 : Nat) : Int)), x, ?_, .inl ⟨rfl, rfl, rfl, fun j hj1 hj2 => ?_⟩⟩
        · have k2 : ((toR x0.2[k]).tx == n) = false := by simp [hh]
          unfold g26_l1_b
          simp only [k1, i1, c1, k2, hw, obs, asP_pointer, asB_bool, asI_int, asS_string, asSl_slice, asM_map, asTup0, asTup1, asTup2, asTup3, asTup4, asTup5, asTup6, asTup7, asTup8, asTup9, asAgg2, asAgg3, asAgg4, asAgg5, asAgg6, asAgg7, asAgg8, asAgg9, asAgg12, getD0, getD1, getD2, getD3, getD4, getD5, getD6, getD7, getD8, getD9, getD10, getD11, getD12, getD13, getD14, getD15, getD16, getD17, getD18, getD19, Bool.not_true, Bool.not_false, Bool.false_eq_true, Bool.true_eq_false, ↓reduceIte, decide_true, decide_false, Option.isNone_some, Option.isNone_none, Option.isSome_some, Option.isSome_none, beq_self_eq_true, bne_self_eq_false, Bool.and_true, Bool.true_and, Bool.and_false, Bool.false_and, not_true_eq_false, not_false_eq_true]
        · by_cases ej : j = k
          · subst ej; exact hh
          · exact hj j hj1 (by omega))
    (fun s x ⟨hs, hx, hj⟩ => by
      obtain ⟨k, hk, e⟩ := hn
      exact absurd e (hj k hk hk)) (k := 0) (s := (false, 0)) (w := w) (Nat.zero_le _) ⟨rfl, rfl, fun j _ h => by omega⟩
  refine g26_call ?_
  unfold g26
  rw [g26_l1_ret_of g, g26_l1_ret, ht]

/-- the table, and how much each name holds at most -/
structure NS (W x : World) (tb : Nat) (D : Nat → Prop) (A : List (Int × TV)) (S : Nat) : Prop where
  tab : Tb x D tb A
  fr : Fr [] W x
  hD : ∀ y, D y → W.heap.size ≤ y
  len : ∀ n, (tvOf A n).parts.length ≤ S
theorem NS.step {W x x' : World} {tb : Nat} {D : Nat → Prop} {A : List (Int × TV)} {S : Nat} (h : NS W x tb D A S) {T : List Nat} (f : Fr T x x') (hT : ∀ y ∈ T, W.heap.size ≤ y ∧ ¬ D y) : NS W x' tb D A S :=
  ⟨h.tab.fr f (fun y hy _ => (hT y hy).2), (h.fr.app f).mono (by intro y hy hl; simp at hy; have := (hT y hy).1; omega), h.hD, h.len⟩
theorem NS.apply {W x : World} {tb : Nat} {D : Nat → Prop} {A : List (Int × TV)} {S : Nat} (h : NS W x tb D A S) {r : RV} {q : Sh} (sl : SlC x 1 q (intsV' r.parts)) (hq : 0 < r.parts.length → ∀ y ∈ blkOf q, ¬ D y) (hS : S + r.parts.length ≤ 100000000) :
    ∃ x' D', callF Try.prog 13 #[.pointer (some ⟨tb, 0, none⟩), r.arg q] x = some (.tuple #[], x') ∧ NS W x' tb D' (apA A r) (S + r.parts.length) ∧ Chg D x x' D' := by
  obtain ⟨x', D', e, t, c⟩ := apply13 h.tab sl (fun h0 y hy => ⟨hq h0 y hy, sl.lt (by simpa using h0) y hy⟩) (fun _ => by have := h.len r.tx; omega)
  obtain ⟨T, f, hT⟩ := c.fr
  have z := h.fr.size
  refine ⟨x', D', e, ⟨t, (h.fr.app f).mono (by intro y hy hl; simp at hy; have := h.hD y (hT y hy); omega), fun y hy => ?_, tv_len h.len r⟩, c⟩
  rcases c.new y hy with hh | hh
  · exact h.hD y hh
  · omega
theorem NS.lenM {W x : World} {tb : Nat} {D : Nat → Prop} {A : List (Int × TV)} {S : Nat} (h : NS W x tb D A S) (hS : S ≤ 1000000000) (n : Int) : ∀ v, kget A n = some v → v.parts.length ≤ 1000000000 := by
  intro v hv
  have : tvOf A n = v := by unfold tvOf; rw [hv]; rfl
  rw [← this]
  have := h.len n
  omega
end Go.Proofs.Ytlcojbodcbjkaaa
