/-
  TxnMa: lemmas on what Go functions of this seat come to (for whatever arguments, as each says). No condition but those that stand in each lemma.
-/
import Derived.Test.YtlcojbodcbjkaaaTxnF0
import Derived.Test.YtlcojbodcbjkaaaTxnSrt
namespace Go.Proofs.Ytlcojbodcbjkaaa
open Go Go.Ev
set_option maxRecDepth 100000
set_option linter.unusedVariables false
set_option linter.unusedSimpArgs false

theorem index62 {w : World} {q : Option Addr × Nat × Nat} {l : List Int} (h : SlC w 1 q (l.map (Value.int .i64))) (hn : l.length < 9223372036854775807) (v : Int) :
    ∃ n : Int, callF Try.prog 62 #[.slice q.1 q.2.1 q.2.2, .int .i64 v] w = some (.int .i64 n, w) ∧ (0 ≤ n ↔ v ∈ l) := by
  have hl := h.1
  simp only [List.length_map] at hl
  obtain ⟨e, t, w', g1, hQ⟩ := loopS_rule (b := g62_l2_b q v) (I := fun k s x => s = ((0 : Int), (k : Int)) ∧ x = w ∧ v ∉ l.take k)
    (Q := fun e s x => x = w ∧ (e = .ret ∧ 0 ≤ s.1 ∧ v ∈ l ∨ e = .exit 0 ∧ v ∉ l)) (n := l.length)
    (fun k s x hk ⟨hs, hx, hv⟩ => by
      subst hs hx
      obtain ⟨a, i1, c1⟩ := h.get (i := k) (by simpa using hk)
      have k1 : decide ((k : Int) < (q.2.1 : Int)) = true := by simp; omega
      have c1' : x.cell? a = some (.int .i64 l[k]) := by rw [c1]; simp
      have hw := wrap_succ (n := k) (by omega)
      by_cases he : v = l[k]
      · have k2 : (v == l[k]) = true := by simp [he]
        refine ⟨.ret, ((k : Int), (k : Int)), x, ?_, .inr ⟨by simp, rfl, .inl ⟨rfl, by simp, by rw [he]; exact List.getElem_mem hk⟩⟩⟩
        unfold g62_l2_b
        simp only [k1, i1, c1', k2, obs, asP_pointer, asB_bool, asI_int, asS_string, asSl_slice, asM_map, asTup0, asTup1, asTup2, asTup3, asTup4, asTup5, asTup6, asTup7, asTup8, asTup9, asAgg2, asAgg3, asAgg4, asAgg5, asAgg6, asAgg7, asAgg8, asAgg9, asAgg12, getD0, getD1, getD2, getD3, getD4, getD5, getD6, getD7, getD8, getD9, getD10, getD11, getD12, getD13, getD14, getD15, getD16, getD17, getD18, getD19, Bool.not_true, Bool.not_false, Bool.false_eq_true, Bool.true_eq_false, ↓reduceIte, decide_true, decide_false, Option.isNone_some, Option.isNone_none, Option.isSome_some, Option.isSome_none, beq_self_eq_true, bne_self_eq_false, Bool.and_true, Bool.true_and, Bool.and_false, Bool.false_and, not_true_eq_false, not_false_eq_true]
      · have k2 : (v == l[k]) = false := by simp [he]
        refine ⟨.normal, ((0 : Int), ((k + 1 : Nat) : Int)), x, ?_, .inl ⟨rfl, rfl, rfl, ?_⟩⟩
        · unfold g62_l2_b
          simp only [k1, i1, c1', k2, hw, obs, asP_pointer, asB_bool, asI_int, asS_string, asSl_slice, asM_map, asTup0, asTup1, asTup2, asTup3, asTup4, asTup5, asTup6, asTup7, asTup8, asTup9, asAgg2, asAgg3, asAgg4, asAgg5, asAgg6, asAgg7, asAgg8, asAgg9, asAgg12, getD0, getD1, getD2, getD3, getD4, getD5, getD6, getD7, getD8, getD9, getD10, getD11, getD12, getD13, getD14, getD15, getD16, getD17, getD18, getD19, Bool.not_true, Bool.not_false, Bool.false_eq_true, Bool.true_eq_false, ↓reduceIte, decide_true, decide_false, Option.isNone_some, Option.isNone_none, Option.isSome_some, Option.isSome_none, beq_self_eq_true, bne_self_eq_false, Bool.and_true, Bool.true_and, Bool.and_false, Bool.false_and, not_true_eq_false, not_false_eq_true]
        · rw [List.take_succ_eq_append_getElem hk]
          intro hm
          rcases List.mem_append.mp hm with hm | hm
          · exact hv hm
          · simp only [List.mem_singleton] at hm; exact he hm)
    (fun s x ⟨hs, hx, hv⟩ => by
      subst hs hx
      rw [List.take_length] at hv
      refine ⟨.exit 0, ((0 : Int), (l.length : Int)), x, ?_, by simp, rfl, .inr ⟨rfl, hv⟩⟩
      unfold g62_l2_b
      have k1 : decide ((l.length : Int) < (q.2.1 : Int)) = false := by simp; omega
      simp only [k1, Bool.false_eq_true, if_false]) (k := 0) (s := ((0 : Int), (0 : Int))) (w := w) (Nat.zero_le _) ⟨rfl, rfl, by simp⟩
  obtain ⟨rfl, hQ⟩ := hQ
  rcases hQ with ⟨rfl, h0, hv⟩ | ⟨rfl, hv⟩
  · refine ⟨t.1, g62_call ?_, by simp [h0, hv]⟩
    unfold g62
    rw [g62_l2_ret_of g1, g62_l2_ret]
  · refine ⟨-1, g62_call ?_, by simp [hv]⟩
    unfold g62
    rw [g62_l2_x0_of g1, g62_l2_x0]

theorem contains32 {w : World} {q : Option Addr × Nat × Nat} {l : List Int} (h : SlC w 1 q (l.map (Value.int .i64))) (hn : l.length < 9223372036854775807) (v : Int) :
    callF Try.prog 32 #[.slice q.1 q.2.1 q.2.2, .int .i64 v] w = some (.bool (decide (v ∈ l)), w) := by
  obtain ⟨n, e, hv⟩ := index62 h hn v
  refine g32_call ?_
  unfold g32
  simp only [e, obs, asP_pointer, asB_bool, asI_int, asS_string, asSl_slice, asM_map, asTup0, asTup1, asTup2, asTup3, asTup4, asTup5, asTup6, asTup7, asTup8, asTup9, asAgg2, asAgg3, asAgg4, asAgg5, asAgg6, asAgg7, asAgg8, asAgg9, asAgg12, getD0, getD1, getD2, getD3, getD4, getD5, getD6, getD7, getD8, getD9, getD10, getD11, getD12, getD13, getD14, getD15, getD16, getD17, getD18, getD19, Bool.not_true, Bool.not_false, Bool.false_eq_true, Bool.true_eq_false, ↓reduceIte, decide_true, decide_false, Option.isNone_some, Option.isNone_none, Option.isSome_some, Option.isSome_none, beq_self_eq_true, bne_self_eq_false, Bool.and_true, Bool.true_and, Bool.and_false, Bool.false_and, not_true_eq_false, not_false_eq_true]
  by_cases h0 : v ∈ l
  · have := hv.2 h0
    simp [h0]; omega
  · have : ¬ (0 ≤ n) := fun hh => h0 (hv.1 hh)
    simp [h0]; omega

theorem t28 : TSl Try.prog 28 3 1 8 := tsl_of Try.underlying28 (by kernel_rfl)

theorem clone36 {w : World} {q : Option Addr × Nat × Nat} {l : List Int} (h : SlC w 1 q (l.map (Value.int .i64))) (hq : q.1 = none → q.2.1 = 0) (hn : l.length ≤ 1000000000) :
    ∃ q' w', callF Try.prog 36 #[.slice q.1 q.2.1 q.2.2] w = some (.slice q'.1 q'.2.1 q'.2.2, w') ∧ Own w' 3 1 q' (l.map (Value.int .i64)) ∧ Fr [] w w' ∧ ∀ y ∈ blkOf q', w.heap.size ≤ y := by
  have hl := h.1
  simp only [List.length_map] at hl
  have hml : maxLen = 9223372036854775807 := by decide
  cases hq1 : q.1 with
  | none =>
    have := hq hq1
    have : l = [] := List.eq_nil_of_length_eq_zero (by omega)
    subst this
    refine ⟨(none, 0, 0), w, g36_call (u0 := (none, q.2.1, q.2.2)) ?_, Own.nil _ _ _, Fr.refl _ _, by simp [blkOf]⟩
    unfold g36
    simp only [obs, asP_pointer, asB_bool, asI_int, asS_string, asSl_slice, asM_map, asTup0, asTup1, asTup2, asTup3, asTup4, asTup5, asTup6, asTup7, asTup8, asTup9, asAgg2, asAgg3, asAgg4, asAgg5, asAgg6, asAgg7, asAgg8, asAgg9, asAgg12, getD0, getD1, getD2, getD3, getD4, getD5, getD6, getD7, getD8, getD9, getD10, getD11, getD12, getD13, getD14, getD15, getD16, getD17, getD18, getD19, Bool.not_true, Bool.not_false, Bool.false_eq_true, Bool.true_eq_false, ↓reduceIte, decide_true, decide_false, Option.isNone_some, Option.isNone_none, Option.isSome_some, Option.isSome_none, beq_self_eq_true, bne_self_eq_false, Bool.and_true, Bool.true_and, Bool.and_false, Bool.false_and, not_true_eq_false, not_false_eq_true]
  | some a =>
    obtain ⟨q', w', e, o, f, hb, _⟩ := app_empty t28 h (by intro y hy; obtain ⟨z, _, rfl⟩ := List.mem_map.mp hy; rfl) (by omega) (by omega) 28 #[false, false]
    refine ⟨q', w', g36_call (u0 := (some a, q.2.1, q.2.2)) ?_, o, f, hb⟩
    rw [hq1] at e
    unfold g36
    simp only [e, obs, asP_pointer, asB_bool, asI_int, asS_string, asSl_slice, asM_map, asTup0, asTup1, asTup2, asTup3, asTup4, asTup5, asTup6, asTup7, asTup8, asTup9, asAgg2, asAgg3, asAgg4, asAgg5, asAgg6, asAgg7, asAgg8, asAgg9, asAgg12, getD0, getD1, getD2, getD3, getD4, getD5, getD6, getD7, getD8, getD9, getD10, getD11, getD12, getD13, getD14, getD15, getD16, getD17, getD18, getD19, Bool.not_true, Bool.not_false, Bool.false_eq_true, Bool.true_eq_false, ↓reduceIte, decide_true, decide_false, Option.isNone_some, Option.isNone_none, Option.isSome_some, Option.isSome_none, beq_self_eq_true, bne_self_eq_false, Bool.and_true, Bool.true_and, Bool.and_false, Bool.false_and, not_true_eq_false, not_false_eq_true]
end Go.Proofs.Ytlcojbodcbjkaaa

namespace Go.Proofs.Ytlcojbodcbjkaaa
open Go Go.Ev
set_option maxRecDepth 100000
set_option linter.unusedVariables false
set_option linter.unusedSimpArgs false

/-- what is known of a name -/
structure TV where
  st : Int
  inc : Int
  pid : Int
  ep : Int
  parts : List Int
  last : Int
  lpid : Int
  com : Bool
def tv0 : TV := ⟨0, 0, 0, 0, [], -1, 0, false⟩
def TV.cs (v : TV) (q : Option Addr × Nat × Nat) : List Value := [.int .i64 v.st, .int .i64 v.inc, .int .u64 v.pid, .int .i64 v.ep, .slice q.1 q.2.1 q.2.2, .int .i64 v.last, .int .u64 v.lpid, .bool v.com]

/-- a name in memory -/
structure PE where
  pid : Int
  pb : Nat
  q : Option Addr × Nat × Nat
  pv : TV
def PE.cs (f : PE) : List Value := f.pv.cs f.q
def PE.ab (f : PE) : Int × TV := (f.pid, f.pv)
def keysOf (fs : List PE) : List (Int × Value) := fs.map fun f => (f.pid, .pointer (some ⟨f.pb, 0, none⟩))
abbrev intsV' (l : List Int) : List Value := l.map (Value.int .i64)

structure PeOk (w : World) (D : Nat → Prop) (f : PE) : Prop where
  blk : Blk w f.pb f.cs 46
  own : Own w 3 1 f.q (intsV' f.pv.parts)
  reg : D f.pb ∧ ∀ y ∈ blkOf f.q, D y

theorem PeOk.fr {w w' : World} {D D' : Nat → Prop} {f : PE} {S : List Nat} (h : PeOk w D f) (hf : Fr S w w') (h1 : f.pb ∉ S) (h2 : ∀ y ∈ blkOf f.q, y ∉ S) (hD : ∀ y, D y → D' y) : PeOk w' D' f :=
  ⟨h.blk.fr hf h1, h.own.fr hf h2, hD _ h.reg.1, fun y hy => hD y (h.reg.2 y hy)⟩

structure Ps (w : World) (D : Nat → Prop) (fs : List PE) : Prop where
  ok : ∀ i (h : i < fs.length), PeOk w D fs[i]
  ap : ∀ i j (hi : i < fs.length) (hj : j < fs.length), i ≠ j → fs[i].pb ≠ fs[j].pb ∧ fs[i].pid ≠ fs[j].pid ∧ ∀ y ∈ blkOf fs[i].q, y ∉ blkOf fs[j].q

theorem PeOk.apart {w : World} {D : Nat → Prop} {f g : PE} (h : PeOk w D f) (h' : PeOk w D g) : f.pb ∉ blkOf g.q := h.blk.notin h'.own (by decide)

theorem Ps.fr {w w' : World} {D D' : Nat → Prop} {fs : List PE} {S : List Nat} (h : Ps w D fs) (hf : Fr S w w') (hS : ∀ y ∈ S, ∀ i (hi : i < fs.length), y ≠ fs[i].pb ∧ y ∉ blkOf fs[i].q) (hD : ∀ y, D y → D' y) : Ps w' D' fs :=
  ⟨fun i hi => (h.ok i hi).fr hf (fun hm => (hS _ hm i hi).1 rfl) (fun y hy hm => (hS y hm i hi).2 hy) hD, h.ap⟩

theorem Ps.set {w w' : World} {D D' : Nat → Prop} {fs : List PE} {S : List Nat} (h : Ps w D fs) {i : Nat} (hi : i < fs.length) {f : PE} (hn : f.pid = fs[i].pid) (hb : f.pb = fs[i].pb) (hf : Fr S w w')
    (hS : ∀ y ∈ S, y = fs[i].pb ∨ y ∈ blkOf fs[i].q ∨ ∀ j (hj : j < fs.length), y ≠ fs[j].pb ∧ y ∉ blkOf fs[j].q) (hD : ∀ y, D y → D' y) (ok : PeOk w' D' f) (hq : ∀ y ∈ blkOf f.q, y ∈ blkOf fs[i].q ∨ w.heap.size ≤ y) : Ps w' D' (fs.set i f) := by
  have key : ∀ j (hj : j < fs.length), j ≠ i → ∀ y ∈ S, y ≠ fs[j].pb ∧ y ∉ blkOf fs[j].q := by
    intro j hj hji y hy
    have a := h.ap i j hi hj (fun e => hji e.symm)
    rcases hS y hy with hh | hh | hh
    · subst hh; exact ⟨a.1, (h.ok i hi).apart (h.ok j hj)⟩
    · exact ⟨fun e => (h.ok j hj).apart (h.ok i hi) (e ▸ hh), a.2.2 y hh⟩
    · exact hh j hj
  have apf : ∀ j (hj : j < fs.length), j ≠ i → f.pb ≠ fs[j].pb ∧ f.pid ≠ fs[j].pid ∧ ∀ y ∈ blkOf f.q, y ∉ blkOf fs[j].q := by
    intro j hj hji
    have a := h.ap i j hi hj (fun e => hji e.symm)
    refine ⟨hb ▸ a.1, hn ▸ a.2.1, fun y hy hm => ?_⟩
    rcases hq y hy with hh | hh
    · exact a.2.2 y hh hm
    · have := (h.ok j hj).own.lt y hm; omega
  refine ⟨fun j hj => ?_, fun j k hj hk hjk => ?_⟩
  · rw [List.length_set] at hj
    rw [List.getElem_set]
    split
    · exact ok
    · rename_i hne
      exact (h.ok j hj).fr hf (fun hm => (key j hj (fun e => hne e.symm) _ hm).1 rfl) (fun y hy hm => (key j hj (fun e => hne e.symm) y hm).2 hy) hD
  · rw [List.length_set] at hj hk
    rw [List.getElem_set, List.getElem_set]
    split
    · rename_i e1
      split
      · rename_i e2; omega
      · rename_i e2; exact apf k hk (fun e => e2 e.symm)
    · rename_i e1
      split
      · rename_i e2
        obtain ⟨a, b, c⟩ := apf j hj (fun e => e1 e.symm)
        exact ⟨a.symm, b.symm, fun y hy hm => c y hm hy⟩
      · exact h.ap j k hj hk hjk

theorem Ps.push {w w' : World} {D D' : Nat → Prop} {fs : List PE} {S : List Nat} (h : Ps w D fs) {f : PE} (hn : ∀ i (hi : i < fs.length), fs[i].pid ≠ f.pid) (hf : Fr S w w')
    (hS : ∀ y ∈ S, ∀ j (hj : j < fs.length), y ≠ fs[j].pb ∧ y ∉ blkOf fs[j].q) (hD : ∀ y, D y → D' y) (ok : PeOk w' D' f) (hb : w.heap.size ≤ f.pb) (hq : ∀ y ∈ blkOf f.q, w.heap.size ≤ y) : Ps w' D' (fs ++ [f]) := by
  have h1 := h.fr hf hS hD
  have apf : ∀ j (hj : j < fs.length), f.pb ≠ fs[j].pb ∧ f.pid ≠ fs[j].pid ∧ ∀ y ∈ blkOf f.q, y ∉ blkOf fs[j].q := by
    intro j hj
    have l1 := (h.ok j hj).blk.lt
    exact ⟨by omega, (hn j hj).symm, fun y hy hm => by have := (h.ok j hj).own.lt y hm; have := hq y hy; omega⟩
  refine ⟨fun j hj => ?_, fun j k hj hk hjk => ?_⟩
  · rw [List.getElem_append]
    split
    · exact h1.ok j _
    · rename_i hlt
      have : j - fs.length = 0 := by simp at hj; omega
      simp only [this, List.getElem_cons_zero]; exact ok
  · rw [List.getElem_append, List.getElem_append]
    simp only [List.length_append, List.length_cons, List.length_nil] at hj hk
    split
    · split
      · exact h.ap j k _ _ hjk
      · rename_i e1 e2
        have : k - fs.length = 0 := by omega
        simp only [this, List.getElem_cons_zero]
        obtain ⟨a, b, c⟩ := apf j e1
        exact ⟨a.symm, b.symm, fun y hy hm => c y hm hy⟩
    · split
      · rename_i e1 e2
        have : j - fs.length = 0 := by omega
        simp only [this, List.getElem_cons_zero]
        exact apf k e2
      · omega

/-! ## the table -/
structure Tb (w : World) (D : Nat → Prop) (b : Nat) (A : List (Int × TV)) : Prop where
  ex : ∃ r fs, A = fs.map PE.ab ∧ Blk w b [.map (some r)] 71 ∧ MapAt (Value.int .i64) w r (keysOf fs) ∧ Ps w D fs ∧ D r
  db : D b
  lt : ∀ y, D y → y < w.heap.size

theorem keysOf_get (fs : List PE) (n : Int) : (∃ i, ∃ h : i < fs.length, fs[i].pid = n ∧ kget (keysOf fs) n = some (.pointer (some ⟨fs[i].pb, 0, none⟩)) ∧ kget (fs.map PE.ab) n = some fs[i].pv ∧
      (∀ g, kups (fs.map PE.ab) n g = (fs.map PE.ab).set i (n, g (some fs[i].pv)))) ∨
    (kget (keysOf fs) n = none ∧ kget (fs.map PE.ab) n = none ∧ (∀ i (h : i < fs.length), fs[i].pid ≠ n) ∧ (∀ g, kups (fs.map PE.ab) n g = fs.map PE.ab ++ [(n, g none)])) := by
  induction fs with
  | nil => exact .inr ⟨rfl, rfl, fun i h => absurd h (by simp), fun g => rfl⟩
  | cons f fs ih =>
    have ek : keysOf (f :: fs) = (f.pid, .pointer (some ⟨f.pb, 0, none⟩)) :: keysOf fs := rfl
    have ea : (f :: fs).map PE.ab = (f.pid, f.pv) :: fs.map PE.ab := rfl
    rw [ek, ea, kget_cons, kget_cons]
    by_cases hn : n = f.pid
    · exact .inl ⟨0, by simp, hn.symm, by simp [hn], by simp [hn], fun g => by simp [kups, hn]⟩
    · simp only [hn, if_false]
      rcases ih with ⟨i, hi, h1, h2, h3, h4⟩ | ⟨h1, h2, h3, h4⟩
      · exact .inl ⟨i + 1, by simp; omega, by simpa using h1, by simpa using h2, by simpa using h3, fun g => by simp [kups, hn, h4]⟩
      · refine .inr ⟨h1, h2, fun i hi => ?_, fun g => by simp [kups, hn, h4]⟩
        cases i with
        | zero => exact fun e => hn e.symm
        | succ i => exact h3 i (by simpa using hi)


theorem Tb.fr {w w' : World} {D : Nat → Prop} {b : Nat} {A : List (Int × TV)} {S : List Nat} (h : Tb w D b A) (hf : Fr S w w') (hS : ∀ y ∈ S, y < w.heap.size → ¬ D y) : Tb w' D b A := by
  obtain ⟨r, fs, h1, h2, h4, h5, h6⟩ := h.ex
  have hf' := fr_old hf
  have hS' : ∀ y ∈ S.filter (· < w.heap.size), ¬ D y := by intro y hy; simp at hy; exact hS y hy.1 hy.2
  refine ⟨⟨r, fs, h1, h2.fr hf' (fun hm => hS' _ hm h.db), h4.fr hf' (fun hm => hS' _ hm h6), h5.fr hf' (fun y hy i hi => ⟨fun e => hS' y hy (e ▸ (h5.ok i hi).reg.1), fun hm => hS' y hy ((h5.ok i hi).reg.2 y hm)⟩) (fun _ => id), h6⟩, h.db, fun y hy => ?_⟩
  have := h.lt y hy; have := hf.size; omega

section
variable {w : World} {D : Nat → Prop} {b : Nat} {A : List (Int × TV)}

theorem new10 (w : World) : ∃ w' D', callF Try.prog 10 #[] w = some (.pointer (some ⟨w.heap.size + 1, 0, none⟩), w') ∧ Tb w' D' (w.heap.size + 1) [] ∧ Fr [] w w' ∧ ∀ y, D' y → w.heap.size ≤ y := by
  have f1 : Fr [] w (w.alloc (.map #[] 0)) := Fr.alloc _
  have m1 := MapAt.new (Value.int .i64) w
  have z1 : (w.alloc (.map #[] 0)).heap.size = w.heap.size + 1 := Array.size_push _
  have e0 : callF Try.prog 10 #[] w = some (.pointer (some ⟨(w.alloc (.map #[] 0)).heap.size, 0, none⟩), (w.alloc (.map #[] 0)).alloc (.cells #[.map (some w.heap.size)] 71)) := g10_call rfl
  generalize w.alloc (.map #[] 0) = w1 at *
  have f2 : Fr [] w1 (w1.alloc (.cells #[.map (some w.heap.size)] 71)) := Fr.alloc _
  have b2 := Blk.new w1 [.map (some w.heap.size)] 71
  have z2 : (w1.alloc (.cells #[.map (some w.heap.size)] 71)).heap.size = w1.heap.size + 1 := Array.size_push _
  rw [z1] at e0
  refine ⟨_, fun y => y = w.heap.size ∨ y = w.heap.size + 1, e0, ⟨⟨w.heap.size, [], rfl, ?_, m1.fr f2 (by simp), ⟨fun i h => absurd h (by simp), fun i j h => absurd h (by simp)⟩, .inl rfl⟩, .inr rfl, ?_⟩, (Fr.mono (Fr.app f1 f2) (by have z0_ := Fr.size f1; have z1_ := Fr.size f2; intro y_ hy_ hl_; grind [blkOf])), ?_⟩
  · rw [z1] at b2; exact b2
  · intro y hy
    show y < (w1.alloc (.cells #[.map (some w.heap.size)] 71)).heap.size
    omega
  · intro y hy; omega

theorem look_nm {r : Nat} {fs : List PE} (h : MapAt (Value.int .i64) w r (keysOf fs)) (n : Int) : mLook (.int .i64) w (some r) (.int .i64 n) = some (kget (keysOf fs) n) := h.look (keyOk_int .i64) n
end
end Go.Proofs.Ytlcojbodcbjkaaa

namespace Go.Proofs.Ytlcojbodcbjkaaa
open Go Go.Ev
set_option maxRecDepth 100000
set_option linter.unusedVariables false
set_option linter.unusedSimpArgs false

def tvOf (A : List (Int × TV)) (n : Int) : TV := (kget A n).getD tv0
/-- a name's state as a value -/
def TV.arg (v : TV) (q : Option Addr × Nat × Nat) : Value := .agg #[.int .i64 v.st, .int .i64 v.inc, .int .u64 v.pid, .int .i64 v.ep, .slice q.1 q.2.1 q.2.2, .int .i64 v.last, .int .u64 v.lpid, .bool v.com]
theorem tvcs_oc (v : TV) (q : Option Addr × Nat × Nat) : ∀ u ∈ v.cs q, u.oneCell' = true := by
  intro u hu
  simp only [TV.cs, List.mem_cons, List.not_mem_nil, or_false] at hu
  rcases hu with rfl | rfl | rfl | rfl | rfl | rfl | rfl | rfl <;> rfl

/-- a zero block of a name's state -/
theorem zero46 (w : World) : Blk (w.alloc (.cells #[.int .i64 0, .int .i64 0, .int .u64 0, .int .i64 0, .slice none 0 0, .int .i64 0, .int .u64 0, .bool false] 46)) w.heap.size [.int .i64 0, .int .i64 0, .int .u64 0, .int .i64 0, .slice none 0 0, .int .i64 0, .int .u64 0, .bool false] 46 ∧
    Fr [] w (w.alloc (.cells #[.int .i64 0, .int .i64 0, .int .u64 0, .int .i64 0, .slice none 0 0, .int .i64 0, .int .u64 0, .bool false] 46)) := ⟨Blk.new w [.int .i64 0, .int .i64 0, .int .u64 0, .int .i64 0, .slice none 0 0, .int .i64 0, .int .u64 0, .bool false] 46, Fr.alloc _⟩

section
variable {w : World} {D : Nat → Prop} {b : Nat} {A : List (Int × TV)}

theorem tx21 (h : Tb w D b A) (n : Int) (hp : ∀ v, kget A n = some v → v.parts.length ≤ 1000000000) :
    ∃ q w', callF Try.prog 21 #[.pointer (some ⟨b, 0, none⟩), .int .i64 n] w = some ((tvOf A n).arg q, w') ∧ Fr [] w w' ∧ Own w' 3 1 q (intsV' (tvOf A n).parts) ∧ ∀ y ∈ blkOf q, w.heap.size ≤ y := by
  obtain ⟨b1, f1⟩ := zero46 w
  obtain ⟨r, fs, rfl, h2, h4, h5, h6⟩ := (h.fr f1 (by simp)).ex
  obtain ⟨w1, hw1⟩ : ∃ w1, w.alloc (.cells #[.int .i64 0, .int .i64 0, .int .u64 0, .int .i64 0, .slice none 0 0, .int .i64 0, .int .u64 0, .bool false] 46) = w1 := ⟨_, rfl⟩
  rw [hw1] at b1 f1 h2 h4 h5
  have c0 : w1.cell? ⟨b, 0, none⟩ = some (.map (some r)) := h2.cell 0
  have lk := look_nm h4 n
  rcases keysOf_get fs n with ⟨i, hi, k1, k2, k3, k4⟩ | ⟨k1, k2, k3, k4⟩
  · rw [k2] at lk
    have hv : tvOf (fs.map PE.ab) n = fs[i].pv := by unfold tvOf; rw [k3]; rfl
    rw [hv]
    have hpl := hp _ k3
    have ok := h5.ok i hi
    have hbk := ok.blk
    have how := ok.own
    have hcs : fs[i].cs = fs[i].pv.cs fs[i].q := rfl
    rw [hcs] at hbk
    obtain ⟨v, hvv⟩ : ∃ v, fs[i].pv = v := ⟨_, rfl⟩
    obtain ⟨q, hqq⟩ : ∃ q, fs[i].q = q := ⟨_, rfl⟩
    obtain ⟨p, hpp⟩ : ∃ p, fs[i].pb = p := ⟨_, rfl⟩
    rw [hvv] at hbk how hpl ⊢
    rw [hqq] at hbk how
    rw [hpp] at hbk lk
    have l1 := hbk.ldN (n := 8) rfl
    obtain ⟨b2, f2⟩ := zero46 w1
    obtain ⟨w3, s3, b3, f3⟩ := b2.stL (vs := v.cs q) rfl (tvcs_oc _ _)
    have z1 := f1.size
    have z2 := f2.size
    have F3 : Fr [] w1 w3 := (f2.app f3).mono (by intro y hy hl; simp at hy; omega)
    have c3 : w3.cell? ⟨w1.heap.size, 4, none⟩ = some (.slice q.1 q.2.1 q.2.2) := b3.cell 4
    have how3 := how.fr F3 (by simp)
    obtain ⟨q', w4, e4, o4, f4, n4⟩ := clone36 how3.slC (fun hn => (how3.empty hn).2.1) hpl
    have z3 := F3.size
    have z4 := f4.size
    have b4 := b3.fr f4 (by simp)
    have s5 : st1 w4 ⟨w1.heap.size, 4, none⟩ (.slice q'.1 q'.2.1 q'.2.2) = some (w4.setCell ⟨w1.heap.size, 4, none⟩ (.slice q'.1 q'.2.1 q'.2.2)) := b4.st1 (by simp [TV.cs]) rfl
    have b5 : Blk (w4.setCell ⟨w1.heap.size, 4, none⟩ (.slice q'.1 q'.2.1 q'.2.2)) w1.heap.size (v.cs q') 46 := b4.set 4 (.slice q'.1 q'.2.1 q'.2.2)
    have f5 : Fr [w1.heap.size] w4 (w4.setCell ⟨w1.heap.size, 4, none⟩ (.slice q'.1 q'.2.1 q'.2.2)) := Fr.setCell
    obtain ⟨w5, hw5⟩ : ∃ w5, w4.setCell ⟨w1.heap.size, 4, none⟩ (.slice q'.1 q'.2.1 q'.2.2) = w5 := ⟨_, rfl⟩
    rw [hw5] at s5 b5 f5
    have l5 := b5.ldN (n := 8) rfl
    have F5 : Fr [] w1 w5 := ((F3.app f4).app f5).mono (by intro y hy hl; simp at hy; omega)
    have b15 := b1.fr F5 (by simp)
    obtain ⟨w6, s6, b6, f6⟩ := b15.stL (vs := v.cs q') rfl (tvcs_oc _ _)
    have l6 := b6.ldN (n := 8) rfl
    have z5 := F5.size
    have lb1 := b1.lt
    have o6 := (o4.fr f5 (fun y hy hm => by simp at hm; have := n4 y hy; have := b3.lt; omega)).fr f6 (fun y hy hm => by simp at hm; have := n4 y hy; omega)
    simp only [TV.cs] at l1 s3 l5 s6 l6
    refine ⟨q', w6, g21_call ?_, ((f1.app F5).app f6).mono (by intro y hy hl; simp at hy; omega), o6, fun y hy => by have := n4 y hy; omega⟩
    unfold g21
    rw [hw1]
    simp only [c0, lk, Option.getD_some, l1, s3, c3, e4, addr_add, Nat.zero_add, s5, l5, s6, l6, obs, asP_pointer, asB_bool, asI_int, asS_string, asSl_slice, asM_map, asTup0, asTup1, asTup2, asTup3, asTup4, asTup5, asTup6, asTup7, asTup8, asTup9, asAgg2, asAgg3, asAgg4, asAgg5, asAgg6, asAgg7, asAgg8, asAgg9, asAgg12, getD0, getD1, getD2, getD3, getD4, getD5, getD6, getD7, getD8, getD9, getD10, getD11, getD12, getD13, getD14, getD15, getD16, getD17, getD18, getD19, Bool.not_true, Bool.not_false, Bool.false_eq_true, Bool.true_eq_false, ↓reduceIte, decide_true, decide_false, Option.isNone_some, Option.isNone_none, Option.isSome_some, Option.isSome_none, beq_self_eq_true, bne_self_eq_false, Bool.and_true, Bool.true_and, Bool.and_false, Bool.false_and, not_true_eq_false, not_false_eq_true]
    rfl
  · rw [k1] at lk
    have hv : tvOf (fs.map PE.ab) n = tv0 := by unfold tvOf; rw [k2]; rfl
    rw [hv]
    obtain ⟨w2, s2, b2, f2⟩ := b1.stL (vs := tv0.cs (none, 0, 0)) rfl (tvcs_oc _ _)
    have l2 := b2.ldN (n := 8) rfl
    simp only [TV.cs, tv0] at s2 l2
    refine ⟨(none, 0, 0), w2, g21_call ?_, (f1.app f2).mono (by intro y hy hl; simp at hy; omega), Own.nil _ _ _, by simp [blkOf]⟩
    unfold g21
    rw [hw1]
    simp only [c0, lk, Option.getD_none, s2, l2, obs, asP_pointer, asB_bool, asI_int, asS_string, asSl_slice, asM_map, asTup0, asTup1, asTup2, asTup3, asTup4, asTup5, asTup6, asTup7, asTup8, asTup9, asAgg2, asAgg3, asAgg4, asAgg5, asAgg6, asAgg7, asAgg8, asAgg9, asAgg12, getD0, getD1, getD2, getD3, getD4, getD5, getD6, getD7, getD8, getD9, getD10, getD11, getD12, getD13, getD14, getD15, getD16, getD17, getD18, getD19, Bool.not_true, Bool.not_false, Bool.false_eq_true, Bool.true_eq_false, ↓reduceIte, decide_true, decide_false, Option.isNone_some, Option.isNone_none, Option.isSome_some, Option.isSome_none, beq_self_eq_true, bne_self_eq_false, Bool.and_true, Bool.true_and, Bool.and_false, Bool.false_and, not_true_eq_false, not_false_eq_true]
    rfl
end
end Go.Proofs.Ytlcojbodcbjkaaa

namespace Go.Proofs.Ytlcojbodcbjkaaa
open Go Go.Ev
set_option maxRecDepth 100000
set_option linter.unusedVariables false
set_option linter.unusedSimpArgs false

/-- a record: kind, name, incarnation, producer, epoch -/
structure RV where
  k : Int
  tx : Int
  inc : Int
  pid : Int
  ep : Int
  parts : List Int
  com : Bool
def rv0 : RV := ⟨0, 0, 0, 0, 0, [], false⟩
def RV.cs (r : RV) (q : Option Addr × Nat × Nat) : List Value := [.int .i64 r.k, .int .i64 r.tx, .int .i64 r.inc, .int .u64 r.pid, .int .i64 r.ep, .slice q.1 q.2.1 q.2.2, .bool r.com]
def RV.arg (r : RV) (q : Option Addr × Nat × Nat) : Value := .agg #[.int .i64 r.k, .int .i64 r.tx, .int .i64 r.inc, .int .u64 r.pid, .int .i64 r.ep, .slice q.1 q.2.1 q.2.2, .bool r.com]
theorem rvcs_oc (r : RV) (q : Option Addr × Nat × Nat) : ∀ u ∈ r.cs q, u.oneCell' = true := by
  intro u hu
  simp only [RV.cs, List.mem_cons, List.not_mem_nil, or_false] at hu
  rcases hu with rfl | rfl | rfl | rfl | rfl | rfl | rfl <;> rfl
theorem zero30 (w : World) : Blk (w.alloc (.cells #[.int .i64 0, .int .i64 0, .int .i64 0, .int .u64 0, .int .i64 0, .slice none 0 0, .bool false] 30)) w.heap.size (rv0.cs (none, 0, 0)) 30 ∧
    Fr [] w (w.alloc (.cells #[.int .i64 0, .int .i64 0, .int .i64 0, .int .u64 0, .int .i64 0, .slice none 0 0, .bool false] 30)) := ⟨Blk.new w (rv0.cs (none, 0, 0)) 30, Fr.alloc _⟩

/-- a result is written, and read back -/
theorem retR {w x : World} {g : Nat} {cs : List Value} (hb : Blk x g cs 30) (hl : cs.length = 7) (hf : Fr [] w x) (hg : w.heap.size ≤ g) (r : RV) (q : Option Addr × Nat × Nat) :
    ∃ w', stL x ⟨g, 0, none⟩ [.int .i64 r.k, .int .i64 r.tx, .int .i64 r.inc, .int .u64 r.pid, .int .i64 r.ep, .slice q.1 q.2.1 q.2.2, .bool r.com] 0 = some w' ∧
      ldN w' ⟨g, 0, none⟩ 0 7 = some [.int .i64 r.k, .int .i64 r.tx, .int .i64 r.inc, .int .u64 r.pid, .int .i64 r.ep, .slice q.1 q.2.1 q.2.2, .bool r.com] ∧ Fr [] w w' ∧ Fr [g] x w' := by
  obtain ⟨w', h1, h2, h3⟩ := hb.stL (vs := r.cs q) (by rw [hl]; rfl) (rvcs_oc r q)
  exact ⟨w', h1, h2.ldN (n := 7) rfl, (hf.app h3).mono (by intro y hy hl; simp at hy; omega), h3⟩

/-- what Init decides -/
def initP (t : TV) (n inc pid : Int) : RV × Bool × Int :=
  if n < 0 ∨ 8 ≤ n then (rv0, false, 1)
  else if t.st ≠ 0 ∧ inc < t.inc then (rv0, false, 10)
  else if t.st = 3 then (rv0, false, 16)
  else if t.st ≠ 0 ∧ inc = t.inc then (rv0, false, 0)
  else if t.st = 2 then (⟨3, n, 0, 0, 0, [], false⟩, true, 16)
  else if t.st = 0 ∨ IntKind.i64.wrap (t.ep + 2) ≥ 999 then (if pid = 0 then (rv0, false, 16) else (⟨1, n, inc, pid, 0, [], false⟩, true, 0))
  else (⟨1, n, inc, t.pid, IntKind.i64.wrap (t.ep + 2), [], false⟩, true, 0)

theorem bad34 (w : World) (b : Nat) (n : Int) : callF Try.prog 34 #[.pointer (some ⟨b, 0, none⟩), .int .i64 n] w = some (.int .i64 (if n < 0 ∨ 8 ≤ n then 1 else 0), w) := by
  refine g34_call ?_
  unfold g34
  by_cases h1 : n < 0
  · simp only [h1, obs, asP_pointer, asB_bool, asI_int, asS_string, asSl_slice, asM_map, asTup0, asTup1, asTup2, asTup3, asTup4, asTup5, asTup6, asTup7, asTup8, asTup9, asAgg2, asAgg3, asAgg4, asAgg5, asAgg6, asAgg7, asAgg8, asAgg9, asAgg12, getD0, getD1, getD2, getD3, getD4, getD5, getD6, getD7, getD8, getD9, getD10, getD11, getD12, getD13, getD14, getD15, getD16, getD17, getD18, getD19, Bool.not_true, Bool.not_false, Bool.false_eq_true, Bool.true_eq_false, ↓reduceIte, decide_true, decide_false, Option.isNone_some, Option.isNone_none, Option.isSome_some, Option.isSome_none, beq_self_eq_true, bne_self_eq_false, Bool.and_true, Bool.true_and, Bool.and_false, Bool.false_and, not_true_eq_false, not_false_eq_true]; simp
  · by_cases h2 : 8 ≤ n
    · have k1 : decide (n ≥ 8) = true := by simp; omega
      simp only [h1, k1, obs, asP_pointer, asB_bool, asI_int, asS_string, asSl_slice, asM_map, asTup0, asTup1, asTup2, asTup3, asTup4, asTup5, asTup6, asTup7, asTup8, asTup9, asAgg2, asAgg3, asAgg4, asAgg5, asAgg6, asAgg7, asAgg8, asAgg9, asAgg12, getD0, getD1, getD2, getD3, getD4, getD5, getD6, getD7, getD8, getD9, getD10, getD11, getD12, getD13, getD14, getD15, getD16, getD17, getD18, getD19, Bool.not_true, Bool.not_false, Bool.false_eq_true, Bool.true_eq_false, ↓reduceIte, decide_true, decide_false, Option.isNone_some, Option.isNone_none, Option.isSome_some, Option.isSome_none, beq_self_eq_true, bne_self_eq_false, Bool.and_true, Bool.true_and, Bool.and_false, Bool.false_and, not_true_eq_false, not_false_eq_true]; simp [h2]
    · have k1 : decide (n ≥ 8) = false := by simp; omega
      simp only [h1, k1, obs, asP_pointer, asB_bool, asI_int, asS_string, asSl_slice, asM_map, asTup0, asTup1, asTup2, asTup3, asTup4, asTup5, asTup6, asTup7, asTup8, asTup9, asAgg2, asAgg3, asAgg4, asAgg5, asAgg6, asAgg7, asAgg8, asAgg9, asAgg12, getD0, getD1, getD2, getD3, getD4, getD5, getD6, getD7, getD8, getD9, getD10, getD11, getD12, getD13, getD14, getD15, getD16, getD17, getD18, getD19, Bool.not_true, Bool.not_false, Bool.false_eq_true, Bool.true_eq_false, ↓reduceIte, decide_true, decide_false, Option.isNone_some, Option.isNone_none, Option.isSome_some, Option.isSome_none, beq_self_eq_true, bne_self_eq_false, Bool.and_true, Bool.true_and, Bool.and_false, Bool.false_and, not_true_eq_false, not_false_eq_true]; simp [h1, h2]

section
variable {w : World} {D : Nat → Prop} {b : Nat} {A : List (Int × TV)}

/-- the beginning of Init, Add and End -/
theorem begins (h : Tb w D b A) (n : Int) (hp : ∀ v, kget A n = some v → v.parts.length ≤ 1000000000) :
    ∃ (q : Option Addr × Nat × Nat) (w1 w2 w3 : World), w.alloc (.cells #[.int .i64 0, .int .i64 0, .int .i64 0, .int .u64 0, .int .i64 0, .slice none 0 0, .bool false] 30) = w1 ∧ callF Try.prog 21 #[.pointer (some ⟨b, 0, none⟩), .int .i64 n] w1 = some ((tvOf A n).arg q, w2) ∧
      stL (w2.alloc (.cells #[.int .i64 0, .int .i64 0, .int .u64 0, .int .i64 0, .slice none 0 0, .int .i64 0, .int .u64 0, .bool false] 46)) ⟨w2.heap.size, 0, none⟩ [.int .i64 (tvOf A n).st, .int .i64 (tvOf A n).inc, .int .u64 (tvOf A n).pid, .int .i64 (tvOf A n).ep, .slice q.1 q.2.1 q.2.2, .int .i64 (tvOf A n).last, .int .u64 (tvOf A n).lpid, .bool (tvOf A n).com] 0 = some w3 ∧
      Blk w1 w.heap.size (rv0.cs (none, 0, 0)) 30 ∧ Fr [] w w1 ∧ Blk w3 w.heap.size (rv0.cs (none, 0, 0)) 30 ∧ Blk w3 w2.heap.size ((tvOf A n).cs q) 46 ∧ Fr [] w w3 ∧ w.heap.size < w2.heap.size ∧ Own w3 3 1 q (intsV' (tvOf A n).parts) := by
  obtain ⟨b1, f1⟩ := zero30 w
  obtain ⟨w1, hw1⟩ : ∃ w1, w.alloc (.cells #[.int .i64 0, .int .i64 0, .int .i64 0, .int .u64 0, .int .i64 0, .slice none 0 0, .bool false] 30) = w1 := ⟨_, rfl⟩
  rw [hw1] at b1 f1
  obtain ⟨q, w2, e2, f2, o2, n2⟩ := tx21 (h.fr f1 (by simp)) n hp
  obtain ⟨b3, f3⟩ := zero46 w2
  obtain ⟨w3, s3, b4, f4⟩ := b3.stL (vs := (tvOf A n).cs q) rfl (tvcs_oc _ _)
  have z1 := f1.size
  have z2 := f2.size
  have F3 : Fr [] w2 w3 := (f3.app f4).mono (by intro y hy hl; simp at hy; omega)
  have b13 := (b1.fr f2 (by simp)).fr F3 (by simp)
  have l1 := b1.lt
  exact ⟨q, w1, w2, w3, hw1, e2, s3, b1, f1, b13, b4, (Fr.mono (Fr.app (Fr.app f1 f2) F3) (by have z0_ := Fr.size f1; have z1_ := Fr.size f2; have z2_ := Fr.size F3; intro y_ hy_ hl_; grind [blkOf])), by omega, o2.fr F3 (by simp)⟩

theorem init14 (h : Tb w D b A) (n inc pid : Int) (hp : ∀ v, kget A n = some v → v.parts.length ≤ 1000000000) :
    ∃ w', callF Try.prog 14 #[.pointer (some ⟨b, 0, none⟩), .int .i64 n, .int .i64 inc, .int .u64 pid] w = some (.tuple #[(initP (tvOf A n) n inc pid).1.arg (none, 0, 0), .bool (initP (tvOf A n) n inc pid).2.1, .int .i64 (initP (tvOf A n) n inc pid).2.2], w') ∧ Fr [] w w' := by
  obtain ⟨q, w1, w2, w3, hw1, e2, s3, b1, f1, b3, bt, f3, lt, ow⟩ := begins h n hp
  have e34 := bad34 w1 b n
  generalize tvOf A n = t at *
  by_cases hn : n < 0 ∨ 8 ≤ n
  · obtain ⟨w', r1, r2, r3, _⟩ := retR b1 rfl f1 (Nat.le_refl _) rv0 (none, 0, 0)
    rw [if_pos hn] at e34
    refine ⟨w', g14_call ?_, r3⟩
    have : initP t n inc pid = (rv0, false, 1) := by unfold initP; rw [if_pos hn]
    rw [this]
    simp only [rv0] at r1 r2
    unfold g14
    rw [hw1]
    simp only [e34, obs, asP_pointer, asB_bool, asI_int, asS_string, asSl_slice, asM_map, asTup0, asTup1, asTup2, asTup3, asTup4, asTup5, asTup6, asTup7, asTup8, asTup9, asAgg2, asAgg3, asAgg4, asAgg5, asAgg6, asAgg7, asAgg8, asAgg9, asAgg12, getD0, getD1, getD2, getD3, getD4, getD5, getD6, getD7, getD8, getD9, getD10, getD11, getD12, getD13, getD14, getD15, getD16, getD17, getD18, getD19, Bool.not_true, Bool.not_false, Bool.false_eq_true, Bool.true_eq_false, ↓reduceIte, decide_true, decide_false, Option.isNone_some, Option.isNone_none, Option.isSome_some, Option.isSome_none, beq_self_eq_true, bne_self_eq_false, Bool.and_true, Bool.true_and, Bool.and_false, Bool.false_and, not_true_eq_false, not_false_eq_true]
    simp
    rw [r1]
    simp only [r2, obs, asP_pointer, asB_bool, asI_int, asS_string, asSl_slice, asM_map, asTup0, asTup1, asTup2, asTup3, asTup4, asTup5, asTup6, asTup7, asTup8, asTup9, asAgg2, asAgg3, asAgg4, asAgg5, asAgg6, asAgg7, asAgg8, asAgg9, asAgg12, getD0, getD1, getD2, getD3, getD4, getD5, getD6, getD7, getD8, getD9, getD10, getD11, getD12, getD13, getD14, getD15, getD16, getD17, getD18, getD19, Bool.not_true, Bool.not_false, Bool.false_eq_true, Bool.true_eq_false, ↓reduceIte, decide_true, decide_false, Option.isNone_some, Option.isNone_none, Option.isSome_some, Option.isSome_none, beq_self_eq_true, bne_self_eq_false, Bool.and_true, Bool.true_and, Bool.and_false, Bool.false_and, not_true_eq_false, not_false_eq_true]
    rfl
  · rw [if_neg hn] at e34
    have c0 : w3.cell? ⟨w2.heap.size, 0, none⟩ = some (.int .i64 t.st) := bt.cell 0
    have c1 : w3.cell? ⟨w2.heap.size, 1, none⟩ = some (.int .i64 t.inc) := bt.cell 1
    have c2 : w3.cell? ⟨w2.heap.size, 2, none⟩ = some (.int .u64 t.pid) := bt.cell 2
    have c3 : w3.cell? ⟨w2.heap.size, 3, none⟩ = some (.int .i64 t.ep) := bt.cell 3
    have fin := retR b3 rfl f3 (Nat.le_refl _)
    have e2' : callF Try.prog 21 #[.pointer (some ⟨b, 0, none⟩), .int .i64 n] w1 = some (.agg #[.int .i64 t.st, .int .i64 t.inc, .int .u64 t.pid, .int .i64 t.ep, .slice q.1 q.2.1 q.2.2, .int .i64 t.last, .int .u64 t.lpid, .bool t.com], w2) := e2
    have hwz : IntKind.i64.wrap (t.ep + 2) = IntKind.i64.wrap (t.ep + 2) := rfl
    suffices H : ∃ w', g14 (some ⟨b, 0, none⟩) n inc pid w = some (.tuple #[(initP t n inc pid).1.arg (none, 0, 0), .bool (initP t n inc pid).2.1, .int .i64 (initP t n inc pid).2.2], w') ∧ Fr [] w w' by
      obtain ⟨w', e, f⟩ := H
      exact ⟨w', g14_call e, f⟩
    unfold g14
    rw [hw1]
    have k0 : ((0 : Int) != 0) = false := rfl
    simp only [e34, k0, e2', s3, addr_add, Nat.zero_add, c0, c1, c2, c3, obs, asP_pointer, asB_bool, asI_int, asS_string, asSl_slice, asM_map, asTup0, asTup1, asTup2, asTup3, asTup4, asTup5, asTup6, asTup7, asTup8, asTup9, asAgg2, asAgg3, asAgg4, asAgg5, asAgg6, asAgg7, asAgg8, asAgg9, asAgg12, getD0, getD1, getD2, getD3, getD4, getD5, getD6, getD7, getD8, getD9, getD10, getD11, getD12, getD13, getD14, getD15, getD16, getD17, getD18, getD19, Bool.not_true, Bool.not_false, Bool.false_eq_true, Bool.true_eq_false, ↓reduceIte, decide_true, decide_false, Option.isNone_some, Option.isNone_none, Option.isSome_some, Option.isSome_none, beq_self_eq_true, bne_self_eq_false, Bool.and_true, Bool.true_and, Bool.and_false, Bool.false_and, not_true_eq_false, not_false_eq_true]
    have leaf : ∀ (r : RV) (ok : Bool) (e : Int), initP t n inc pid = (r, ok, e) → r.parts = [] →
        ∃ w', (stL w3 ⟨w.heap.size, 0, none⟩ [.int .i64 r.k, .int .i64 r.tx, .int .i64 r.inc, .int .u64 r.pid, .int .i64 r.ep, .slice none 0 0, .bool r.com] 0 = some w' ∧ ldN w' ⟨w.heap.size, 0, none⟩ 0 7 = some [.int .i64 r.k, .int .i64 r.tx, .int .i64 r.inc, .int .u64 r.pid, .int .i64 r.ep, .slice none 0 0, .bool r.com]) ∧ Fr [] w w' := by
      intro r ok e _ _
      obtain ⟨w', r1, r2, r3, _⟩ := fin r (none, 0, 0)
      exact ⟨w', ⟨r1, r2⟩, r3⟩
    by_cases s3' : t.st = 3
    · have k1 : (t.st != 0) = true := by simp [s3']
      have k2 : (t.st == 3) = true := by simp [s3']
      by_cases hi : inc < t.inc
      · have ei : initP t n inc pid = (rv0, false, 10) := by unfold initP; rw [if_neg hn, if_pos ⟨by omega, hi⟩]
        obtain ⟨w', ⟨r1, r2⟩, r3⟩ := leaf _ _ _ ei rfl
        rw [ei]
        simp only [rv0] at r1 r2
        have k3 : decide (inc < t.inc) = true := by simp [hi]
        refine ⟨w', ?_, r3⟩
        simp only [k1, k3, r1, r2, obs, asP_pointer, asB_bool, asI_int, asS_string, asSl_slice, asM_map, asTup0, asTup1, asTup2, asTup3, asTup4, asTup5, asTup6, asTup7, asTup8, asTup9, asAgg2, asAgg3, asAgg4, asAgg5, asAgg6, asAgg7, asAgg8, asAgg9, asAgg12, getD0, getD1, getD2, getD3, getD4, getD5, getD6, getD7, getD8, getD9, getD10, getD11, getD12, getD13, getD14, getD15, getD16, getD17, getD18, getD19, Bool.not_true, Bool.not_false, Bool.false_eq_true, Bool.true_eq_false, ↓reduceIte, decide_true, decide_false, Option.isNone_some, Option.isNone_none, Option.isSome_some, Option.isSome_none, beq_self_eq_true, bne_self_eq_false, Bool.and_true, Bool.true_and, Bool.and_false, Bool.false_and, not_true_eq_false, not_false_eq_true]
        rfl
      · have ei : initP t n inc pid = (rv0, false, 16) := by unfold initP; rw [if_neg hn, if_neg (by omega), if_pos s3']
        obtain ⟨w', ⟨r1, r2⟩, r3⟩ := leaf _ _ _ ei rfl
        rw [ei]
        simp only [rv0] at r1 r2
        have k3 : decide (inc < t.inc) = false := by simp; omega
        refine ⟨w', ?_, r3⟩
        simp only [k1, k3, k2, r1, r2, obs, asP_pointer, asB_bool, asI_int, asS_string, asSl_slice, asM_map, asTup0, asTup1, asTup2, asTup3, asTup4, asTup5, asTup6, asTup7, asTup8, asTup9, asAgg2, asAgg3, asAgg4, asAgg5, asAgg6, asAgg7, asAgg8, asAgg9, asAgg12, getD0, getD1, getD2, getD3, getD4, getD5, getD6, getD7, getD8, getD9, getD10, getD11, getD12, getD13, getD14, getD15, getD16, getD17, getD18, getD19, Bool.not_true, Bool.not_false, Bool.false_eq_true, Bool.true_eq_false, ↓reduceIte, decide_true, decide_false, Option.isNone_some, Option.isNone_none, Option.isSome_some, Option.isSome_none, beq_self_eq_true, bne_self_eq_false, Bool.and_true, Bool.true_and, Bool.and_false, Bool.false_and, not_true_eq_false, not_false_eq_true]
        rfl
    have k2 : (t.st == 3) = false := by simp [s3']
    -- a new producer, or the next epoch
    have newR : ∀ (p e : Int), ∃ w4 w5, stL (w3.alloc (.cells #[.int .i64 0, .int .i64 0, .int .i64 0, .int .u64 0, .int .i64 0, .slice none 0 0, .bool false] 30)) ⟨w3.heap.size, 0, none⟩ [.int .i64 1, .int .i64 n, .int .i64 inc, .int .u64 t.pid, .int .i64 (IntKind.i64.wrap (t.ep + 2)), .slice none 0 0, .bool false] 0 = some w4 ∧
        w4.cell? ⟨w2.heap.size, 0, none⟩ = some (.int .i64 t.st) ∧ w4.cell? ⟨w3.heap.size, 4, none⟩ = some (.int .i64 (IntKind.i64.wrap (t.ep + 2))) ∧
        (stL w4 ⟨w.heap.size, 0, none⟩ [.int .i64 0, .int .i64 0, .int .i64 0, .int .u64 0, .int .i64 0, .slice none 0 0, .bool false] 0 = some w5 ∧ ldN w5 ⟨w.heap.size, 0, none⟩ 0 7 = some [.int .i64 0, .int .i64 0, .int .i64 0, .int .u64 0, .int .i64 0, .slice none 0 0, .bool false] ∧ Fr [] w w5) ∧
        (∃ x1 x2 x3, st1 w4 ⟨w3.heap.size, 3, none⟩ (.int .u64 p) = some x1 ∧ st1 x1 ⟨w3.heap.size, 4, none⟩ (.int .i64 0) = some x2 ∧ ldN x2 ⟨w3.heap.size, 0, none⟩ 0 7 = some [.int .i64 1, .int .i64 n, .int .i64 inc, .int .u64 p, .int .i64 0, .slice none 0 0, .bool false] ∧
          stL x2 ⟨w.heap.size, 0, none⟩ [.int .i64 1, .int .i64 n, .int .i64 inc, .int .u64 p, .int .i64 0, .slice none 0 0, .bool false] 0 = some x3 ∧ ldN x3 ⟨w.heap.size, 0, none⟩ 0 7 = some [.int .i64 1, .int .i64 n, .int .i64 inc, .int .u64 p, .int .i64 0, .slice none 0 0, .bool false] ∧ Fr [] w x3) ∧
        (∃ x3, ldN w4 ⟨w3.heap.size, 0, none⟩ 0 7 = some [.int .i64 1, .int .i64 n, .int .i64 inc, .int .u64 t.pid, .int .i64 (IntKind.i64.wrap (t.ep + 2)), .slice none 0 0, .bool false] ∧
          stL w4 ⟨w.heap.size, 0, none⟩ [.int .i64 1, .int .i64 n, .int .i64 inc, .int .u64 t.pid, .int .i64 (IntKind.i64.wrap (t.ep + 2)), .slice none 0 0, .bool false] 0 = some x3 ∧ ldN x3 ⟨w.heap.size, 0, none⟩ 0 7 = some [.int .i64 1, .int .i64 n, .int .i64 inc, .int .u64 t.pid, .int .i64 (IntKind.i64.wrap (t.ep + 2)), .slice none 0 0, .bool false] ∧ Fr [] w x3) := by
      intro p e
      obtain ⟨z1, z2⟩ := zero30 w3
      obtain ⟨w4, s4, b4, f4⟩ := z1.stL (vs := (⟨1, n, inc, t.pid, IntKind.i64.wrap (t.ep + 2), [], false⟩ : RV).cs (none, 0, 0)) rfl (rvcs_oc _ _)
      have sz := z2.size
      have szf := f3.size
      have lb := b3.lt
      have lbt := bt.lt
      have F4 : Fr [] w3 w4 := (z2.app f4).mono (by intro y hy hl; simp at hy; omega)
      have b34 := b3.fr F4 (by simp)
      have bt4 := bt.fr F4 (by simp)
      have FW4 : Fr [] w w4 := (Fr.mono (Fr.app f3 F4) (by have z0_ := Fr.size f3; have z1_ := Fr.size F4; intro y_ hy_ hl_; grind [blkOf]))
      obtain ⟨w5, r1, r2, r3, _⟩ := retR b34 rfl FW4 (Nat.le_refl _) rv0 (none, 0, 0)
      have t1 : st1 w4 ⟨w3.heap.size, 3, none⟩ (.int .u64 p) = some (w4.setCell ⟨w3.heap.size, 3, none⟩ (.int .u64 p)) := b4.st1 (by simp [RV.cs]) rfl
      have b5 := b4.set 3 (.int .u64 p)
      have fs1 : Fr [w3.heap.size] w4 (w4.setCell ⟨w3.heap.size, 3, none⟩ (.int .u64 p)) := Fr.setCell
      obtain ⟨x1, hx1⟩ : ∃ x1, w4.setCell ⟨w3.heap.size, 3, none⟩ (.int .u64 p) = x1 := ⟨_, rfl⟩
      rw [hx1] at t1 b5 fs1
      have t2 : st1 x1 ⟨w3.heap.size, 4, none⟩ (.int .i64 0) = some (x1.setCell ⟨w3.heap.size, 4, none⟩ (.int .i64 0)) := b5.st1 (by simp [RV.cs]) rfl
      have b6 : Blk (x1.setCell ⟨w3.heap.size, 4, none⟩ (.int .i64 0)) w3.heap.size ((⟨1, n, inc, p, 0, [], false⟩ : RV).cs (none, 0, 0)) 30 := b5.set 4 (.int .i64 0)
      have fs2 : Fr [w3.heap.size] x1 (x1.setCell ⟨w3.heap.size, 4, none⟩ (.int .i64 0)) := Fr.setCell
      obtain ⟨x2, hx2⟩ : ∃ x2, x1.setCell ⟨w3.heap.size, 4, none⟩ (.int .i64 0) = x2 := ⟨_, rfl⟩
      rw [hx2] at t2 b6 fs2
      have FW6 : Fr [] w x2 := ((FW4.app fs1).app fs2).mono (by intro y hy hl; simp at hy; omega)
      have b36 := (b34.fr fs1 (by simp; omega)).fr fs2 (by simp; omega)
      obtain ⟨x3, q1, q2, q3, _⟩ := retR b36 rfl FW6 (Nat.le_refl _) ⟨1, n, inc, p, 0, [], false⟩ (none, 0, 0)
      obtain ⟨x4, p1, p2, p3, _⟩ := retR b34 rfl FW4 (Nat.le_refl _) ⟨1, n, inc, t.pid, IntKind.i64.wrap (t.ep + 2), [], false⟩ (none, 0, 0)
      exact ⟨w4, w5, s4, bt4.cell 0, b4.cell 4, ⟨r1, r2, r3⟩, ⟨x1, x2, x3, t1, t2, b6.ldN (n := 7) rfl, q1, q2, q3⟩, ⟨x4, b4.ldN (n := 7) rfl, p1, p2, p3⟩⟩
    obtain ⟨w4, w5, n1, n2, n4, ⟨n5, n6, n7⟩, ⟨x1, x2, x3, a1, a2, a3, a4, a5, a6⟩, ⟨y3, d1, d2, d3, d4⟩⟩ := newR pid 0
    by_cases s0 : t.st = 0
    · have k1 : (t.st != 0) = false := by simp [s0]
      have k3 : (t.st == 2) = false := by simp [s0]
      have k4 : (t.st == 0) = true := by simp [s0]
      by_cases hp0 : pid = 0
      · have ei : initP t n inc pid = (rv0, false, 16) := by unfold initP; rw [if_neg hn, if_neg (by omega), if_neg s3', if_neg (by omega), if_neg (by omega), if_pos (.inl s0), if_pos hp0]
        have k5 : (pid == 0) = true := by simp [hp0]
        rw [ei]
        refine ⟨w5, ?_, n7⟩
        simp only [k1, k2, k3, n1, n2, k4, k5, n5, n6, obs, asP_pointer, asB_bool, asI_int, asS_string, asSl_slice, asM_map, asTup0, asTup1, asTup2, asTup3, asTup4, asTup5, asTup6, asTup7, asTup8, asTup9, asAgg2, asAgg3, asAgg4, asAgg5, asAgg6, asAgg7, asAgg8, asAgg9, asAgg12, getD0, getD1, getD2, getD3, getD4, getD5, getD6, getD7, getD8, getD9, getD10, getD11, getD12, getD13, getD14, getD15, getD16, getD17, getD18, getD19, Bool.not_true, Bool.not_false, Bool.false_eq_true, Bool.true_eq_false, ↓reduceIte, decide_true, decide_false, Option.isNone_some, Option.isNone_none, Option.isSome_some, Option.isSome_none, beq_self_eq_true, bne_self_eq_false, Bool.and_true, Bool.true_and, Bool.and_false, Bool.false_and, not_true_eq_false, not_false_eq_true]
        rfl
      · have ei : initP t n inc pid = (⟨1, n, inc, pid, 0, [], false⟩, true, 0) := by unfold initP; rw [if_neg hn, if_neg (by omega), if_neg s3', if_neg (by omega), if_neg (by omega), if_pos (.inl s0), if_neg hp0]
        have k5 : (pid == 0) = false := by simp [hp0]
        rw [ei]
        refine ⟨x3, ?_, a6⟩
        simp only [k1, k2, k3, n1, n2, k4, k5, a1, a2, g14_j76, g14_j137, g14_j222, g14_j283, a3, a4, a5, obs, asP_pointer, asB_bool, asI_int, asS_string, asSl_slice, asM_map, asTup0, asTup1, asTup2, asTup3, asTup4, asTup5, asTup6, asTup7, asTup8, asTup9, asAgg2, asAgg3, asAgg4, asAgg5, asAgg6, asAgg7, asAgg8, asAgg9, asAgg12, getD0, getD1, getD2, getD3, getD4, getD5, getD6, getD7, getD8, getD9, getD10, getD11, getD12, getD13, getD14, getD15, getD16, getD17, getD18, getD19, Bool.not_true, Bool.not_false, Bool.false_eq_true, Bool.true_eq_false, ↓reduceIte, decide_true, decide_false, Option.isNone_some, Option.isNone_none, Option.isSome_some, Option.isSome_none, beq_self_eq_true, bne_self_eq_false, Bool.and_true, Bool.true_and, Bool.and_false, Bool.false_and, not_true_eq_false, not_false_eq_true]
        rfl
    have k1 : (t.st != 0) = true := by simp [s0]
    have k4 : (t.st == 0) = false := by simp [s0]
    by_cases hi : inc < t.inc
    · have ei : initP t n inc pid = (rv0, false, 10) := by unfold initP; rw [if_neg hn, if_pos ⟨s0, hi⟩]
      obtain ⟨w', ⟨r1, r2⟩, r3⟩ := leaf _ _ _ ei rfl
      rw [ei]
      simp only [rv0] at r1 r2
      have k3 : decide (inc < t.inc) = true := by simp [hi]
      refine ⟨w', ?_, r3⟩
      simp only [k1, k3, r1, r2, obs, asP_pointer, asB_bool, asI_int, asS_string, asSl_slice, asM_map, asTup0, asTup1, asTup2, asTup3, asTup4, asTup5, asTup6, asTup7, asTup8, asTup9, asAgg2, asAgg3, asAgg4, asAgg5, asAgg6, asAgg7, asAgg8, asAgg9, asAgg12, getD0, getD1, getD2, getD3, getD4, getD5, getD6, getD7, getD8, getD9, getD10, getD11, getD12, getD13, getD14, getD15, getD16, getD17, getD18, getD19, Bool.not_true, Bool.not_false, Bool.false_eq_true, Bool.true_eq_false, ↓reduceIte, decide_true, decide_false, Option.isNone_some, Option.isNone_none, Option.isSome_some, Option.isSome_none, beq_self_eq_true, bne_self_eq_false, Bool.and_true, Bool.true_and, Bool.and_false, Bool.false_and, not_true_eq_false, not_false_eq_true]
      rfl
    have k5 : decide (inc < t.inc) = false := by simp; omega
    by_cases he : inc = t.inc
    · have ei : initP t n inc pid = (rv0, false, 0) := by unfold initP; rw [if_neg hn, if_neg (by omega), if_neg s3', if_pos ⟨s0, he⟩]
      obtain ⟨w', ⟨r1, r2⟩, r3⟩ := leaf _ _ _ ei rfl
      rw [ei]
      simp only [rv0] at r1 r2
      have k3 : (inc == t.inc) = true := by simp [he]
      refine ⟨w', ?_, r3⟩
      simp only [k1, k5, k2, k3, r1, r2, obs, asP_pointer, asB_bool, asI_int, asS_string, asSl_slice, asM_map, asTup0, asTup1, asTup2, asTup3, asTup4, asTup5, asTup6, asTup7, asTup8, asTup9, asAgg2, asAgg3, asAgg4, asAgg5, asAgg6, asAgg7, asAgg8, asAgg9, asAgg12, getD0, getD1, getD2, getD3, getD4, getD5, getD6, getD7, getD8, getD9, getD10, getD11, getD12, getD13, getD14, getD15, getD16, getD17, getD18, getD19, Bool.not_true, Bool.not_false, Bool.false_eq_true, Bool.true_eq_false, ↓reduceIte, decide_true, decide_false, Option.isNone_some, Option.isNone_none, Option.isSome_some, Option.isSome_none, beq_self_eq_true, bne_self_eq_false, Bool.and_true, Bool.true_and, Bool.and_false, Bool.false_and, not_true_eq_false, not_false_eq_true]
      rfl
    have k6 : (inc == t.inc) = false := by simp [he]
    by_cases s2 : t.st = 2
    · have ei : initP t n inc pid = (⟨3, n, 0, 0, 0, [], false⟩, true, 16) := by unfold initP; rw [if_neg hn, if_neg (by omega), if_neg s3', if_neg (by omega), if_pos s2]
      obtain ⟨w', ⟨r1, r2⟩, r3⟩ := leaf _ _ _ ei rfl
      rw [ei]
      have k3 : (t.st == 2) = true := by simp [s2]
      refine ⟨w', ?_, r3⟩
      simp only [k1, k5, k2, k6, k3, r1, r2, obs, asP_pointer, asB_bool, asI_int, asS_string, asSl_slice, asM_map, asTup0, asTup1, asTup2, asTup3, asTup4, asTup5, asTup6, asTup7, asTup8, asTup9, asAgg2, asAgg3, asAgg4, asAgg5, asAgg6, asAgg7, asAgg8, asAgg9, asAgg12, getD0, getD1, getD2, getD3, getD4, getD5, getD6, getD7, getD8, getD9, getD10, getD11, getD12, getD13, getD14, getD15, getD16, getD17, getD18, getD19, Bool.not_true, Bool.not_false, Bool.false_eq_true, Bool.true_eq_false, ↓reduceIte, decide_true, decide_false, Option.isNone_some, Option.isNone_none, Option.isSome_some, Option.isSome_none, beq_self_eq_true, bne_self_eq_false, Bool.and_true, Bool.true_and, Bool.and_false, Bool.false_and, not_true_eq_false, not_false_eq_true]
      rfl
    have k7 : (t.st == 2) = false := by simp [s2]
    by_cases hep : IntKind.i64.wrap (t.ep + 2) ≥ 999
    · have k8 : decide (IntKind.i64.wrap (t.ep + 2) ≥ 999) = true := by simp only [decide_eq_true_eq]; exact hep
      by_cases hp0 : pid = 0
      · have ei : initP t n inc pid = (rv0, false, 16) := by unfold initP; rw [if_neg hn, if_neg (by omega), if_neg s3', if_neg (by omega), if_neg (by omega), if_pos (.inr hep), if_pos hp0]
        have k9 : (pid == 0) = true := by simp [hp0]
        rw [ei]
        refine ⟨w5, ?_, n7⟩
        simp only [k1, k5, k2, k6, k7, n1, n2, k4, n4, k8, k9, n5, n6, obs, asP_pointer, asB_bool, asI_int, asS_string, asSl_slice, asM_map, asTup0, asTup1, asTup2, asTup3, asTup4, asTup5, asTup6, asTup7, asTup8, asTup9, asAgg2, asAgg3, asAgg4, asAgg5, asAgg6, asAgg7, asAgg8, asAgg9, asAgg12, getD0, getD1, getD2, getD3, getD4, getD5, getD6, getD7, getD8, getD9, getD10, getD11, getD12, getD13, getD14, getD15, getD16, getD17, getD18, getD19, Bool.not_true, Bool.not_false, Bool.false_eq_true, Bool.true_eq_false, ↓reduceIte, decide_true, decide_false, Option.isNone_some, Option.isNone_none, Option.isSome_some, Option.isSome_none, beq_self_eq_true, bne_self_eq_false, Bool.and_true, Bool.true_and, Bool.and_false, Bool.false_and, not_true_eq_false, not_false_eq_true]
        rfl
      · have ei : initP t n inc pid = (⟨1, n, inc, pid, 0, [], false⟩, true, 0) := by unfold initP; rw [if_neg hn, if_neg (by omega), if_neg s3', if_neg (by omega), if_neg (by omega), if_pos (.inr hep), if_neg hp0]
        have k9 : (pid == 0) = false := by simp [hp0]
        rw [ei]
        refine ⟨x3, ?_, a6⟩
        simp only [k1, k5, k2, k6, k7, n1, n2, k4, n4, k8, k9, a1, a2, g14_j76, g14_j137, g14_j222, g14_j283, a3, a4, a5, obs, asP_pointer, asB_bool, asI_int, asS_string, asSl_slice, asM_map, asTup0, asTup1, asTup2, asTup3, asTup4, asTup5, asTup6, asTup7, asTup8, asTup9, asAgg2, asAgg3, asAgg4, asAgg5, asAgg6, asAgg7, asAgg8, asAgg9, asAgg12, getD0, getD1, getD2, getD3, getD4, getD5, getD6, getD7, getD8, getD9, getD10, getD11, getD12, getD13, getD14, getD15, getD16, getD17, getD18, getD19, Bool.not_true, Bool.not_false, Bool.false_eq_true, Bool.true_eq_false, ↓reduceIte, decide_true, decide_false, Option.isNone_some, Option.isNone_none, Option.isSome_some, Option.isSome_none, beq_self_eq_true, bne_self_eq_false, Bool.and_true, Bool.true_and, Bool.and_false, Bool.false_and, not_true_eq_false, not_false_eq_true]
        rfl
    · have k8 : decide (IntKind.i64.wrap (t.ep + 2) ≥ 999) = false := by simp only [decide_eq_false_iff_not]; exact hep
      have ei : initP t n inc pid = (⟨1, n, inc, t.pid, IntKind.i64.wrap (t.ep + 2), [], false⟩, true, 0) := by unfold initP; rw [if_neg hn, if_neg (by omega), if_neg s3', if_neg (by omega), if_neg (by omega), if_neg (by rintro (h | h); exact s0 h; exact hep h)]
      rw [ei]
      refine ⟨y3, ?_, d4⟩
      simp only [k1, k5, k2, k6, k7, n1, n2, k4, n4, k8, g14_j76, g14_j137, g14_j222, g14_j283, d1, d2, d3, obs, asP_pointer, asB_bool, asI_int, asS_string, asSl_slice, asM_map, asTup0, asTup1, asTup2, asTup3, asTup4, asTup5, asTup6, asTup7, asTup8, asTup9, asAgg2, asAgg3, asAgg4, asAgg5, asAgg6, asAgg7, asAgg8, asAgg9, asAgg12, getD0, getD1, getD2, getD3, getD4, getD5, getD6, getD7, getD8, getD9, getD10, getD11, getD12, getD13, getD14, getD15, getD16, getD17, getD18, getD19, Bool.not_true, Bool.not_false, Bool.false_eq_true, Bool.true_eq_false, ↓reduceIte, decide_true, decide_false, Option.isNone_some, Option.isNone_none, Option.isSome_some, Option.isSome_none, beq_self_eq_true, bne_self_eq_false, Bool.and_true, Bool.true_and, Bool.and_false, Bool.false_and, not_true_eq_false, not_false_eq_true]
      rfl
end
end Go.Proofs.Ytlcojbodcbjkaaa

namespace Go.Proofs.Ytlcojbodcbjkaaa
open Go Go.Ev
set_option maxRecDepth 100000
set_option linter.unusedVariables false
set_option linter.unusedSimpArgs false

def addP (t : TV) (n pid epoch part : Int) : RV × Bool × Int :=
  if n < 0 ∨ 8 ≤ n then (rv0, false, 1)
  else if part < 0 ∨ 6 ≤ part then (rv0, false, 1)
  else if t.st = 0 ∨ pid ≠ t.pid ∨ epoch ≠ t.ep then (rv0, false, 10)
  else if t.st = 3 then (rv0, false, 16)
  else if epoch ≥ 999 then (rv0, false, 17)
  else if part ∈ t.parts then (rv0, false, 0)
  else (⟨2, n, 0, 0, 0, [part], false⟩, true, 0)

def endP (t : TV) (n pid epoch : Int) (com : Bool) : RV × Bool × Int :=
  if n < 0 ∨ 8 ≤ n then (rv0, false, 1)
  else if t.st = 0 ∨ pid ≠ t.pid then (rv0, false, 10)
  else if epoch = t.last ∧ pid = t.lpid ∧ t.com ≠ com then (rv0, false, 14)
  else if epoch = t.last ∧ pid = t.lpid ∧ t.st = 3 then (rv0, false, 16)
  else if epoch = t.last ∧ pid = t.lpid then (rv0, false, 0)
  else if epoch ≠ t.ep then (rv0, false, 10)
  else if t.st ≠ 2 then (rv0, false, 14)
  else (⟨3, n, 0, 0, 0, [], com⟩, true, 0)

section
variable {w : World} {D : Nat → Prop} {b : Nat} {A : List (Int × TV)}

theorem add16 (h : Tb w D b A) (n pid epoch part : Int) (hp : ∀ v, kget A n = some v → v.parts.length ≤ 1000000000) :
    ∃ q w', callF Try.prog 16 #[.pointer (some ⟨b, 0, none⟩), .int .i64 n, .int .u64 pid, .int .i64 epoch, .int .i64 part] w = some (.tuple #[(addP (tvOf A n) n pid epoch part).1.arg q, .bool (addP (tvOf A n) n pid epoch part).2.1, .int .i64 (addP (tvOf A n) n pid epoch part).2.2], w') ∧ Fr [] w w' ∧
      SlC w' 1 q (intsV' (addP (tvOf A n) n pid epoch part).1.parts) ∧ (∀ y ∈ blkOf q, w.heap.size ≤ y) := by
  obtain ⟨q, w1, w2, w3, hw1, e2, s3, b1, f1, b3, bt, f3, lt, ow⟩ := begins h n hp
  have e34 := bad34 w1 b n
  have hpl : (tvOf A n).parts.length ≤ 1000000000 := by
    unfold tvOf
    cases hk : kget A n with
    | none => simp [tv0]
    | some v => exact hp v hk
  generalize tvOf A n = t at *
  suffices H : ∃ q w', g16 (some ⟨b, 0, none⟩) n pid epoch part w = some (.tuple #[(addP t n pid epoch part).1.arg q, .bool (addP t n pid epoch part).2.1, .int .i64 (addP t n pid epoch part).2.2], w') ∧ Fr [] w w' ∧
      SlC w' 1 q (intsV' (addP t n pid epoch part).1.parts) ∧ (∀ y ∈ blkOf q, w.heap.size ≤ y) by
    obtain ⟨q, w', e, f⟩ := H
    exact ⟨q, w', g16_call e, f⟩
  have nil : ∀ w', SlC w' 1 (none, 0, 0) (intsV' []) ∧ (∀ y ∈ blkOf ((none, 0, 0) : Option Addr × Nat × Nat), w.heap.size ≤ y) := fun w' => ⟨⟨rfl, by simp⟩, by simp [blkOf]⟩
  by_cases hn : n < 0 ∨ 8 ≤ n
  · obtain ⟨w', r1, r2, r3, _⟩ := retR b1 rfl f1 (Nat.le_refl _) rv0 (none, 0, 0)
    rw [if_pos hn] at e34
    have ei : addP t n pid epoch part = (rv0, false, 1) := by unfold addP; rw [if_pos hn]
    rw [ei]
    refine ⟨(none, 0, 0), w', ?_, r3, nil w'⟩
    simp only [rv0] at r1 r2
    have k0 : ((1 : Int) != 0) = true := rfl
    unfold g16
    rw [hw1]
    simp only [e34, k0, r1, r2, obs, asP_pointer, asB_bool, asI_int, asS_string, asSl_slice, asM_map, asTup0, asTup1, asTup2, asTup3, asTup4, asTup5, asTup6, asTup7, asTup8, asTup9, asAgg2, asAgg3, asAgg4, asAgg5, asAgg6, asAgg7, asAgg8, asAgg9, asAgg12, getD0, getD1, getD2, getD3, getD4, getD5, getD6, getD7, getD8, getD9, getD10, getD11, getD12, getD13, getD14, getD15, getD16, getD17, getD18, getD19, Bool.not_true, Bool.not_false, Bool.false_eq_true, Bool.true_eq_false, ↓reduceIte, decide_true, decide_false, Option.isNone_some, Option.isNone_none, Option.isSome_some, Option.isSome_none, beq_self_eq_true, bne_self_eq_false, Bool.and_true, Bool.true_and, Bool.and_false, Bool.false_and, not_true_eq_false, not_false_eq_true]
    rfl
  · rw [if_neg hn] at e34
    have c0 : w3.cell? ⟨w2.heap.size, 0, none⟩ = some (.int .i64 t.st) := bt.cell 0
    have c2 : w3.cell? ⟨w2.heap.size, 2, none⟩ = some (.int .u64 t.pid) := bt.cell 2
    have c3 : w3.cell? ⟨w2.heap.size, 3, none⟩ = some (.int .i64 t.ep) := bt.cell 3
    have c4 : w3.cell? ⟨w2.heap.size, 4, none⟩ = some (.slice q.1 q.2.1 q.2.2) := bt.cell 4
    have fin := retR b3 rfl f3 (Nat.le_refl _)
    have e2' : callF Try.prog 21 #[.pointer (some ⟨b, 0, none⟩), .int .i64 n] w1 = some (.agg #[.int .i64 t.st, .int .i64 t.inc, .int .u64 t.pid, .int .i64 t.ep, .slice q.1 q.2.1 q.2.2, .int .i64 t.last, .int .u64 t.lpid, .bool t.com], w2) := e2
    have ec := contains32 (w := w3) ow.slC (by omega) part
    have k0 : ((0 : Int) != 0) = false := rfl
    unfold g16
    rw [hw1]
    simp only [e34, k0, e2', s3, addr_add, Nat.zero_add, c0, c2, c3, c4, ec, obs, asP_pointer, asB_bool, asI_int, asS_string, asSl_slice, asM_map, asTup0, asTup1, asTup2, asTup3, asTup4, asTup5, asTup6, asTup7, asTup8, asTup9, asAgg2, asAgg3, asAgg4, asAgg5, asAgg6, asAgg7, asAgg8, asAgg9, asAgg12, getD0, getD1, getD2, getD3, getD4, getD5, getD6, getD7, getD8, getD9, getD10, getD11, getD12, getD13, getD14, getD15, getD16, getD17, getD18, getD19, Bool.not_true, Bool.not_false, Bool.false_eq_true, Bool.true_eq_false, ↓reduceIte, decide_true, decide_false, Option.isNone_some, Option.isNone_none, Option.isSome_some, Option.isSome_none, beq_self_eq_true, bne_self_eq_false, Bool.and_true, Bool.true_and, Bool.and_false, Bool.false_and, not_true_eq_false, not_false_eq_true]
    have leaf : ∀ (ok : Bool) (e : Int), ∃ w', (stL w3 ⟨w.heap.size, 0, none⟩ [.int .i64 0, .int .i64 0, .int .i64 0, .int .u64 0, .int .i64 0, .slice none 0 0, .bool false] 0 = some w' ∧ ldN w' ⟨w.heap.size, 0, none⟩ 0 7 = some [.int .i64 0, .int .i64 0, .int .i64 0, .int .u64 0, .int .i64 0, .slice none 0 0, .bool false]) ∧ Fr [] w w' := by
      intro ok e
      obtain ⟨w', r1, r2, r3, _⟩ := fin rv0 (none, 0, 0)
      exact ⟨w', ⟨r1, r2⟩, r3⟩
    obtain ⟨w', ⟨r1, r2⟩, r3⟩ := leaf false 0
    by_cases p0 : part < 0
    · have ei : addP t n pid epoch part = (rv0, false, 1) := by unfold addP; rw [if_neg hn, if_pos (.inl p0)]
      have k1 : decide (part < 0) = true := by simp [p0]
      rw [ei]
      refine ⟨(none, 0, 0), w', ?_, r3, nil w'⟩
      simp only [k1, r1, r2, obs, asP_pointer, asB_bool, asI_int, asS_string, asSl_slice, asM_map, asTup0, asTup1, asTup2, asTup3, asTup4, asTup5, asTup6, asTup7, asTup8, asTup9, asAgg2, asAgg3, asAgg4, asAgg5, asAgg6, asAgg7, asAgg8, asAgg9, asAgg12, getD0, getD1, getD2, getD3, getD4, getD5, getD6, getD7, getD8, getD9, getD10, getD11, getD12, getD13, getD14, getD15, getD16, getD17, getD18, getD19, Bool.not_true, Bool.not_false, Bool.false_eq_true, Bool.true_eq_false, ↓reduceIte, decide_true, decide_false, Option.isNone_some, Option.isNone_none, Option.isSome_some, Option.isSome_none, beq_self_eq_true, bne_self_eq_false, Bool.and_true, Bool.true_and, Bool.and_false, Bool.false_and, not_true_eq_false, not_false_eq_true]
      rfl
    have k1 : decide (part < 0) = false := by simp; omega
    by_cases p6 : 6 ≤ part
    · have ei : addP t n pid epoch part = (rv0, false, 1) := by unfold addP; rw [if_neg hn, if_pos (.inr p6)]
      have k2 : decide (part ≥ 6) = true := by simp; omega
      rw [ei]
      refine ⟨(none, 0, 0), w', ?_, r3, nil w'⟩
      simp only [k1, k2, r1, r2, obs, asP_pointer, asB_bool, asI_int, asS_string, asSl_slice, asM_map, asTup0, asTup1, asTup2, asTup3, asTup4, asTup5, asTup6, asTup7, asTup8, asTup9, asAgg2, asAgg3, asAgg4, asAgg5, asAgg6, asAgg7, asAgg8, asAgg9, asAgg12, getD0, getD1, getD2, getD3, getD4, getD5, getD6, getD7, getD8, getD9, getD10, getD11, getD12, getD13, getD14, getD15, getD16, getD17, getD18, getD19, Bool.not_true, Bool.not_false, Bool.false_eq_true, Bool.true_eq_false, ↓reduceIte, decide_true, decide_false, Option.isNone_some, Option.isNone_none, Option.isSome_some, Option.isSome_none, beq_self_eq_true, bne_self_eq_false, Bool.and_true, Bool.true_and, Bool.and_false, Bool.false_and, not_true_eq_false, not_false_eq_true]
      rfl
    have k2 : decide (part ≥ 6) = false := by simp; omega
    by_cases s0 : t.st = 0
    · have ei : addP t n pid epoch part = (rv0, false, 10) := by unfold addP; rw [if_neg hn, if_neg (by omega), if_pos (.inl s0)]
      have k3 : (t.st == 0) = true := by simp [s0]
      rw [ei]
      refine ⟨(none, 0, 0), w', ?_, r3, nil w'⟩
      simp only [k1, k2, k3, r1, r2, obs, asP_pointer, asB_bool, asI_int, asS_string, asSl_slice, asM_map, asTup0, asTup1, asTup2, asTup3, asTup4, asTup5, asTup6, asTup7, asTup8, asTup9, asAgg2, asAgg3, asAgg4, asAgg5, asAgg6, asAgg7, asAgg8, asAgg9, asAgg12, getD0, getD1, getD2, getD3, getD4, getD5, getD6, getD7, getD8, getD9, getD10, getD11, getD12, getD13, getD14, getD15, getD16, getD17, getD18, getD19, Bool.not_true, Bool.not_false, Bool.false_eq_true, Bool.true_eq_false, ↓reduceIte, decide_true, decide_false, Option.isNone_some, Option.isNone_none, Option.isSome_some, Option.isSome_none, beq_self_eq_true, bne_self_eq_false, Bool.and_true, Bool.true_and, Bool.and_false, Bool.false_and, not_true_eq_false, not_false_eq_true]
      rfl
    have k3 : (t.st == 0) = false := by simp [s0]
    by_cases hpd : ¬ pid = t.pid
    · have ei : addP t n pid epoch part = (rv0, false, 10) := by unfold addP; rw [if_neg hn, if_neg (by omega), if_pos (.inr (.inl hpd))]
      have k4 : (pid != t.pid) = true := by simp [hpd]
      rw [ei]
      refine ⟨(none, 0, 0), w', ?_, r3, nil w'⟩
      simp only [k1, k2, k3, k4, r1, r2, obs, asP_pointer, asB_bool, asI_int, asS_string, asSl_slice, asM_map, asTup0, asTup1, asTup2, asTup3, asTup4, asTup5, asTup6, asTup7, asTup8, asTup9, asAgg2, asAgg3, asAgg4, asAgg5, asAgg6, asAgg7, asAgg8, asAgg9, asAgg12, getD0, getD1, getD2, getD3, getD4, getD5, getD6, getD7, getD8, getD9, getD10, getD11, getD12, getD13, getD14, getD15, getD16, getD17, getD18, getD19, Bool.not_true, Bool.not_false, Bool.false_eq_true, Bool.true_eq_false, ↓reduceIte, decide_true, decide_false, Option.isNone_some, Option.isNone_none, Option.isSome_some, Option.isSome_none, beq_self_eq_true, bne_self_eq_false, Bool.and_true, Bool.true_and, Bool.and_false, Bool.false_and, not_true_eq_false, not_false_eq_true]
      rfl
    replace hpd := Decidable.not_not.mp hpd
    have k4 : (pid != t.pid) = false := by simp [hpd]
    by_cases hep : ¬ epoch = t.ep
    · have ei : addP t n pid epoch part = (rv0, false, 10) := by unfold addP; rw [if_neg hn, if_neg (by omega), if_pos (.inr (.inr hep))]
      have k5 : (epoch != t.ep) = true := by simp [hep]
      rw [ei]
      refine ⟨(none, 0, 0), w', ?_, r3, nil w'⟩
      simp only [k1, k2, k3, k4, k5, r1, r2, obs, asP_pointer, asB_bool, asI_int, asS_string, asSl_slice, asM_map, asTup0, asTup1, asTup2, asTup3, asTup4, asTup5, asTup6, asTup7, asTup8, asTup9, asAgg2, asAgg3, asAgg4, asAgg5, asAgg6, asAgg7, asAgg8, asAgg9, asAgg12, getD0, getD1, getD2, getD3, getD4, getD5, getD6, getD7, getD8, getD9, getD10, getD11, getD12, getD13, getD14, getD15, getD16, getD17, getD18, getD19, Bool.not_true, Bool.not_false, Bool.false_eq_true, Bool.true_eq_false, ↓reduceIte, decide_true, decide_false, Option.isNone_some, Option.isNone_none, Option.isSome_some, Option.isSome_none, beq_self_eq_true, bne_self_eq_false, Bool.and_true, Bool.true_and, Bool.and_false, Bool.false_and, not_true_eq_false, not_false_eq_true]
      rfl
    replace hep := Decidable.not_not.mp hep
    have k5 : (epoch != t.ep) = false := by simp [hep]
    have g3 : ¬ (t.st = 0 ∨ pid ≠ t.pid ∨ epoch ≠ t.ep) := by omega
    by_cases s3' : t.st = 3
    · have ei : addP t n pid epoch part = (rv0, false, 16) := by unfold addP; rw [if_neg hn, if_neg (by omega), if_neg g3, if_pos s3']
      have k6 : (t.st == 3) = true := by simp [s3']
      rw [ei]
      refine ⟨(none, 0, 0), w', ?_, r3, nil w'⟩
      simp only [k1, k2, k3, k4, k5, k6, r1, r2, obs, asP_pointer, asB_bool, asI_int, asS_string, asSl_slice, asM_map, asTup0, asTup1, asTup2, asTup3, asTup4, asTup5, asTup6, asTup7, asTup8, asTup9, asAgg2, asAgg3, asAgg4, asAgg5, asAgg6, asAgg7, asAgg8, asAgg9, asAgg12, getD0, getD1, getD2, getD3, getD4, getD5, getD6, getD7, getD8, getD9, getD10, getD11, getD12, getD13, getD14, getD15, getD16, getD17, getD18, getD19, Bool.not_true, Bool.not_false, Bool.false_eq_true, Bool.true_eq_false, ↓reduceIte, decide_true, decide_false, Option.isNone_some, Option.isNone_none, Option.isSome_some, Option.isSome_none, beq_self_eq_true, bne_self_eq_false, Bool.and_true, Bool.true_and, Bool.and_false, Bool.false_and, not_true_eq_false, not_false_eq_true]
      rfl
    have k6 : (t.st == 3) = false := by simp [s3']
    by_cases h9 : epoch ≥ 999
    · have ei : addP t n pid epoch part = (rv0, false, 17) := by unfold addP; rw [if_neg hn, if_neg (by omega), if_neg g3, if_neg s3', if_pos h9]
      have k7 : decide (epoch ≥ 999) = true := by simp; omega
      rw [ei]
      refine ⟨(none, 0, 0), w', ?_, r3, nil w'⟩
      simp only [k1, k2, k3, k4, k5, k6, k7, r1, r2, obs, asP_pointer, asB_bool, asI_int, asS_string, asSl_slice, asM_map, asTup0, asTup1, asTup2, asTup3, asTup4, asTup5, asTup6, asTup7, asTup8, asTup9, asAgg2, asAgg3, asAgg4, asAgg5, asAgg6, asAgg7, asAgg8, asAgg9, asAgg12, getD0, getD1, getD2, getD3, getD4, getD5, getD6, getD7, getD8, getD9, getD10, getD11, getD12, getD13, getD14, getD15, getD16, getD17, getD18, getD19, Bool.not_true, Bool.not_false, Bool.false_eq_true, Bool.true_eq_false, ↓reduceIte, decide_true, decide_false, Option.isNone_some, Option.isNone_none, Option.isSome_some, Option.isSome_none, beq_self_eq_true, bne_self_eq_false, Bool.and_true, Bool.true_and, Bool.and_false, Bool.false_and, not_true_eq_false, not_false_eq_true]
      rfl
    have k7 : decide (epoch ≥ 999) = false := by simp; omega
    by_cases hm : part ∈ t.parts
    · have ei : addP t n pid epoch part = (rv0, false, 0) := by unfold addP; rw [if_neg hn, if_neg (by omega), if_neg g3, if_neg s3', if_neg h9, if_pos hm]
      have k8 : decide (part ∈ t.parts) = true := by simp [hm]
      rw [ei]
      refine ⟨(none, 0, 0), w', ?_, r3, nil w'⟩
      simp only [k1, k2, k3, k4, k5, k6, k7, k8, r1, r2, obs, asP_pointer, asB_bool, asI_int, asS_string, asSl_slice, asM_map, asTup0, asTup1, asTup2, asTup3, asTup4, asTup5, asTup6, asTup7, asTup8, asTup9, asAgg2, asAgg3, asAgg4, asAgg5, asAgg6, asAgg7, asAgg8, asAgg9, asAgg12, getD0, getD1, getD2, getD3, getD4, getD5, getD6, getD7, getD8, getD9, getD10, getD11, getD12, getD13, getD14, getD15, getD16, getD17, getD18, getD19, Bool.not_true, Bool.not_false, Bool.false_eq_true, Bool.true_eq_false, ↓reduceIte, decide_true, decide_false, Option.isNone_some, Option.isNone_none, Option.isSome_some, Option.isSome_none, beq_self_eq_true, bne_self_eq_false, Bool.and_true, Bool.true_and, Bool.and_false, Bool.false_and, not_true_eq_false, not_false_eq_true]
      rfl
    have k8 : decide (part ∈ t.parts) = false := by simp [hm]
    have ei : addP t n pid epoch part = (⟨2, n, 0, 0, 0, [part], false⟩, true, 0) := by unfold addP; rw [if_neg hn, if_neg (by omega), if_neg g3, if_neg s3', if_neg h9, if_neg hm]
    rw [ei]
    have fa : Fr [] w3 (w3.alloc (.cells #[.int .i64 part] 3)) := Fr.alloc _
    have ba := Blk.new w3 [.int .i64 part] 3
    obtain ⟨x, hx⟩ : ∃ x, w3.alloc (.cells #[.int .i64 part] 3) = x := ⟨_, rfl⟩
    rw [hx] at fa
    have ba' : Blk x w3.heap.size [.int .i64 part] 3 := by rw [← hx]; exact ba
    have z3 := f3.size
    have lb := b3.lt
    obtain ⟨x', a1, a2, a3, a4⟩ := retR (b3.fr fa (by simp)) rfl ((Fr.mono (Fr.app f3 fa) (by have z0_ := Fr.size f3; have z1_ := Fr.size fa; intro y_ hy_ hl_; grind [blkOf]))) (Nat.le_refl _) ⟨2, n, 0, 0, 0, [part], false⟩ (some ⟨w3.heap.size, 0, none⟩, 1, 1)
    have ba2 := ba'.fr a4 (by simp; omega)
    refine ⟨(some ⟨w3.heap.size, 0, none⟩, 1, 1), x', ?_, a3, ⟨rfl, fun _ => ⟨w3.heap.size, 0, rfl, ba2.lt, fun j hj => ?_⟩⟩, fun y hy => by simp [blkOf] at hy; omega⟩
    · simp only [k1, k2, k3, k4, k5, k6, k7, k8, hx, a1, a2, obs, asP_pointer, asB_bool, asI_int, asS_string, asSl_slice, asM_map, asTup0, asTup1, asTup2, asTup3, asTup4, asTup5, asTup6, asTup7, asTup8, asTup9, asAgg2, asAgg3, asAgg4, asAgg5, asAgg6, asAgg7, asAgg8, asAgg9, asAgg12, getD0, getD1, getD2, getD3, getD4, getD5, getD6, getD7, getD8, getD9, getD10, getD11, getD12, getD13, getD14, getD15, getD16, getD17, getD18, getD19, Bool.not_true, Bool.not_false, Bool.false_eq_true, Bool.true_eq_false, ↓reduceIte, decide_true, decide_false, Option.isNone_some, Option.isNone_none, Option.isSome_some, Option.isSome_none, beq_self_eq_true, bne_self_eq_false, Bool.and_true, Bool.true_and, Bool.and_false, Bool.false_and, not_true_eq_false, not_false_eq_true]
      rfl
    · have : j = 0 := by simp at hj; omega
      subst this
      exact ba2.cell 0

theorem end18 (h : Tb w D b A) (n pid epoch : Int) (com : Bool) (hp : ∀ v, kget A n = some v → v.parts.length ≤ 1000000000) :
    ∃ w', callF Try.prog 18 #[.pointer (some ⟨b, 0, none⟩), .int .i64 n, .int .u64 pid, .int .i64 epoch, .bool com] w = some (.tuple #[(endP (tvOf A n) n pid epoch com).1.arg (none, 0, 0), .bool (endP (tvOf A n) n pid epoch com).2.1, .int .i64 (endP (tvOf A n) n pid epoch com).2.2], w') ∧ Fr [] w w' := by
  obtain ⟨q, w1, w2, w3, hw1, e2, s3, b1, f1, b3, bt, f3, lt, ow⟩ := begins h n hp
  have e34 := bad34 w1 b n
  generalize tvOf A n = t at *
  suffices H : ∃ w', g18 (some ⟨b, 0, none⟩) n pid epoch com w = some (.tuple #[(endP t n pid epoch com).1.arg (none, 0, 0), .bool (endP t n pid epoch com).2.1, .int .i64 (endP t n pid epoch com).2.2], w') ∧ Fr [] w w' by
    obtain ⟨w', e, f⟩ := H
    exact ⟨w', g18_call e, f⟩
  by_cases hn : n < 0 ∨ 8 ≤ n
  · obtain ⟨w', r1, r2, r3, _⟩ := retR b1 rfl f1 (Nat.le_refl _) rv0 (none, 0, 0)
    rw [if_pos hn] at e34
    have ei : endP t n pid epoch com = (rv0, false, 1) := by unfold endP; rw [if_pos hn]
    rw [ei]
    refine ⟨w', ?_, r3⟩
    simp only [rv0] at r1 r2
    have k0 : ((1 : Int) != 0) = true := rfl
    unfold g18
    rw [hw1]
    simp only [e34, k0, r1, r2, obs, asP_pointer, asB_bool, asI_int, asS_string, asSl_slice, asM_map, asTup0, asTup1, asTup2, asTup3, asTup4, asTup5, asTup6, asTup7, asTup8, asTup9, asAgg2, asAgg3, asAgg4, asAgg5, asAgg6, asAgg7, asAgg8, asAgg9, asAgg12, getD0, getD1, getD2, getD3, getD4, getD5, getD6, getD7, getD8, getD9, getD10, getD11, getD12, getD13, getD14, getD15, getD16, getD17, getD18, getD19, Bool.not_true, Bool.not_false, Bool.false_eq_true, Bool.true_eq_false, ↓reduceIte, decide_true, decide_false, Option.isNone_some, Option.isNone_none, Option.isSome_some, Option.isSome_none, beq_self_eq_true, bne_self_eq_false, Bool.and_true, Bool.true_and, Bool.and_false, Bool.false_and, not_true_eq_false, not_false_eq_true]
    rfl
  · rw [if_neg hn] at e34
    have c0 : w3.cell? ⟨w2.heap.size, 0, none⟩ = some (.int .i64 t.st) := bt.cell 0
    have c2 : w3.cell? ⟨w2.heap.size, 2, none⟩ = some (.int .u64 t.pid) := bt.cell 2
    have c3 : w3.cell? ⟨w2.heap.size, 3, none⟩ = some (.int .i64 t.ep) := bt.cell 3
    have c5 : w3.cell? ⟨w2.heap.size, 5, none⟩ = some (.int .i64 t.last) := bt.cell 5
    have c6 : w3.cell? ⟨w2.heap.size, 6, none⟩ = some (.int .u64 t.lpid) := bt.cell 6
    have c7 : w3.cell? ⟨w2.heap.size, 7, none⟩ = some (.bool t.com) := bt.cell 7
    have fin := retR b3 rfl f3 (Nat.le_refl _)
    have e2' : callF Try.prog 21 #[.pointer (some ⟨b, 0, none⟩), .int .i64 n] w1 = some (.agg #[.int .i64 t.st, .int .i64 t.inc, .int .u64 t.pid, .int .i64 t.ep, .slice q.1 q.2.1 q.2.2, .int .i64 t.last, .int .u64 t.lpid, .bool t.com], w2) := e2
    have k0 : ((0 : Int) != 0) = false := rfl
    unfold g18
    rw [hw1]
    simp only [e34, k0, e2', s3, addr_add, Nat.zero_add, c0, c2, c3, c5, c6, c7, obs, asP_pointer, asB_bool, asI_int, asS_string, asSl_slice, asM_map, asTup0, asTup1, asTup2, asTup3, asTup4, asTup5, asTup6, asTup7, asTup8, asTup9, asAgg2, asAgg3, asAgg4, asAgg5, asAgg6, asAgg7, asAgg8, asAgg9, asAgg12, getD0, getD1, getD2, getD3, getD4, getD5, getD6, getD7, getD8, getD9, getD10, getD11, getD12, getD13, getD14, getD15, getD16, getD17, getD18, getD19, Bool.not_true, Bool.not_false, Bool.false_eq_true, Bool.true_eq_false, ↓reduceIte, decide_true, decide_false, Option.isNone_some, Option.isNone_none, Option.isSome_some, Option.isSome_none, beq_self_eq_true, bne_self_eq_false, Bool.and_true, Bool.true_and, Bool.and_false, Bool.false_and, not_true_eq_false, not_false_eq_true]
    obtain ⟨w', r1, r2, r3, _⟩ := fin rv0 (none, 0, 0)
    simp only [rv0] at r1 r2
    by_cases s0 : t.st = 0
    · have ei : endP t n pid epoch com = (rv0, false, 10) := by unfold endP; rw [if_neg hn, if_pos (.inl s0)]
      have k3 : (t.st == 0) = true := by simp [s0]
      rw [ei]
      refine ⟨w', ?_, r3⟩
      simp only [k3, r1, r2, obs, asP_pointer, asB_bool, asI_int, asS_string, asSl_slice, asM_map, asTup0, asTup1, asTup2, asTup3, asTup4, asTup5, asTup6, asTup7, asTup8, asTup9, asAgg2, asAgg3, asAgg4, asAgg5, asAgg6, asAgg7, asAgg8, asAgg9, asAgg12, getD0, getD1, getD2, getD3, getD4, getD5, getD6, getD7, getD8, getD9, getD10, getD11, getD12, getD13, getD14, getD15, getD16, getD17, getD18, getD19, Bool.not_true, Bool.not_false, Bool.false_eq_true, Bool.true_eq_false, ↓reduceIte, decide_true, decide_false, Option.isNone_some, Option.isNone_none, Option.isSome_some, Option.isSome_none, beq_self_eq_true, bne_self_eq_false, Bool.and_true, Bool.true_and, Bool.and_false, Bool.false_and, not_true_eq_false, not_false_eq_true]
      rfl
    have k3 : (t.st == 0) = false := by simp [s0]
    by_cases hpd : ¬ pid = t.pid
    · have ei : endP t n pid epoch com = (rv0, false, 10) := by unfold endP; rw [if_neg hn, if_pos (.inr hpd)]
      have k4 : (pid != t.pid) = true := by simp [hpd]
      rw [ei]
      refine ⟨w', ?_, r3⟩
      simp only [k3, k4, r1, r2, obs, asP_pointer, asB_bool, asI_int, asS_string, asSl_slice, asM_map, asTup0, asTup1, asTup2, asTup3, asTup4, asTup5, asTup6, asTup7, asTup8, asTup9, asAgg2, asAgg3, asAgg4, asAgg5, asAgg6, asAgg7, asAgg8, asAgg9, asAgg12, getD0, getD1, getD2, getD3, getD4, getD5, getD6, getD7, getD8, getD9, getD10, getD11, getD12, getD13, getD14, getD15, getD16, getD17, getD18, getD19, Bool.not_true, Bool.not_false, Bool.false_eq_true, Bool.true_eq_false, ↓reduceIte, decide_true, decide_false, Option.isNone_some, Option.isNone_none, Option.isSome_some, Option.isSome_none, beq_self_eq_true, bne_self_eq_false, Bool.and_true, Bool.true_and, Bool.and_false, Bool.false_and, not_true_eq_false, not_false_eq_true]
      rfl
    replace hpd := Decidable.not_not.mp hpd
    have k4 : (pid != t.pid) = false := by simp [hpd]
    have g1 : ¬ (t.st = 0 ∨ pid ≠ t.pid) := by omega
    have rest : ¬ (epoch = t.last ∧ pid = t.lpid) → endP t n pid epoch com = if epoch ≠ t.ep then (rv0, false, 10) else if t.st ≠ 2 then (rv0, false, 14) else (⟨3, n, 0, 0, 0, [], com⟩, true, 0) := by
      intro hh
      unfold endP
      rw [if_neg hn, if_neg g1, if_neg (fun h => hh ⟨h.1, h.2.1⟩), if_neg (fun h => hh ⟨h.1, h.2.1⟩), if_neg hh]
    obtain ⟨w5, p1, p2, p3, _⟩ := fin ⟨3, n, 0, 0, 0, [], com⟩ (none, 0, 0)
    simp only at p1 p2
    by_cases hel : epoch = t.last
    · have k5 : (epoch == t.last) = true := by simp [hel]
      by_cases hpl : pid = t.lpid
      · have k6 : (pid == t.lpid) = true := by simp [hpl]
        by_cases hcc : t.com = com
        · have k7 : (t.com == com) = true := by simp [hcc]
          by_cases s3' : t.st = 3
          · have ei : endP t n pid epoch com = (rv0, false, 16) := by unfold endP; rw [if_neg hn, if_neg g1, if_neg (fun h => h.2.2 hcc), if_pos ⟨hel, hpl, s3'⟩]
            have k8 : (t.st == 3) = true := by simp [s3']
            rw [ei]
            refine ⟨w', ?_, r3⟩
            simp only [k3, k4, k5, k6, k7, k8, r1, r2, obs, asP_pointer, asB_bool, asI_int, asS_string, asSl_slice, asM_map, asTup0, asTup1, asTup2, asTup3, asTup4, asTup5, asTup6, asTup7, asTup8, asTup9, asAgg2, asAgg3, asAgg4, asAgg5, asAgg6, asAgg7, asAgg8, asAgg9, asAgg12, getD0, getD1, getD2, getD3, getD4, getD5, getD6, getD7, getD8, getD9, getD10, getD11, getD12, getD13, getD14, getD15, getD16, getD17, getD18, getD19, Bool.not_true, Bool.not_false, Bool.false_eq_true, Bool.true_eq_false, ↓reduceIte, decide_true, decide_false, Option.isNone_some, Option.isNone_none, Option.isSome_some, Option.isSome_none, beq_self_eq_true, bne_self_eq_false, Bool.and_true, Bool.true_and, Bool.and_false, Bool.false_and, not_true_eq_false, not_false_eq_true]
            rfl
          · have ei : endP t n pid epoch com = (rv0, false, 0) := by unfold endP; rw [if_neg hn, if_neg g1, if_neg (fun h => h.2.2 hcc), if_neg (fun h => s3' h.2.2), if_pos ⟨hel, hpl⟩]
            have k8 : (t.st == 3) = false := by simp [s3']
            rw [ei]
            refine ⟨w', ?_, r3⟩
            simp only [k3, k4, k5, k6, k7, k8, r1, r2, obs, asP_pointer, asB_bool, asI_int, asS_string, asSl_slice, asM_map, asTup0, asTup1, asTup2, asTup3, asTup4, asTup5, asTup6, asTup7, asTup8, asTup9, asAgg2, asAgg3, asAgg4, asAgg5, asAgg6, asAgg7, asAgg8, asAgg9, asAgg12, getD0, getD1, getD2, getD3, getD4, getD5, getD6, getD7, getD8, getD9, getD10, getD11, getD12, getD13, getD14, getD15, getD16, getD17, getD18, getD19, Bool.not_true, Bool.not_false, Bool.false_eq_true, Bool.true_eq_false, ↓reduceIte, decide_true, decide_false, Option.isNone_some, Option.isNone_none, Option.isSome_some, Option.isSome_none, beq_self_eq_true, bne_self_eq_false, Bool.and_true, Bool.true_and, Bool.and_false, Bool.false_and, not_true_eq_false, not_false_eq_true]
            rfl
        · have ei : endP t n pid epoch com = (rv0, false, 14) := by unfold endP; rw [if_neg hn, if_neg g1, if_pos ⟨hel, hpl, hcc⟩]
          have k7 : (t.com == com) = false := by simp [hcc]
          rw [ei]
          refine ⟨w', ?_, r3⟩
          simp only [k3, k4, k5, k6, k7, r1, r2, obs, asP_pointer, asB_bool, asI_int, asS_string, asSl_slice, asM_map, asTup0, asTup1, asTup2, asTup3, asTup4, asTup5, asTup6, asTup7, asTup8, asTup9, asAgg2, asAgg3, asAgg4, asAgg5, asAgg6, asAgg7, asAgg8, asAgg9, asAgg12, getD0, getD1, getD2, getD3, getD4, getD5, getD6, getD7, getD8, getD9, getD10, getD11, getD12, getD13, getD14, getD15, getD16, getD17, getD18, getD19, Bool.not_true, Bool.not_false, Bool.false_eq_true, Bool.true_eq_false, ↓reduceIte, decide_true, decide_false, Option.isNone_some, Option.isNone_none, Option.isSome_some, Option.isSome_none, beq_self_eq_true, bne_self_eq_false, Bool.and_true, Bool.true_and, Bool.and_false, Bool.false_and, not_true_eq_false, not_false_eq_true]
          rfl
      · have k6 : (pid == t.lpid) = false := by simp [hpl]
        rw [rest (fun h => hpl h.2)]
        by_cases hep : epoch = t.ep
        · have k8 : (epoch != t.ep) = false := by simp [hep]
          by_cases s2 : t.st = 2
          · have k9 : (t.st != 2) = false := by simp [s2]
            rw [if_neg (show ¬ epoch ≠ t.ep from fun h => h hep), if_neg (show ¬ t.st ≠ 2 from fun h => h s2)]
            refine ⟨w5, ?_, p3⟩
            simp only [k3, k4, k5, k6, k8, k9, p1, p2, obs, asP_pointer, asB_bool, asI_int, asS_string, asSl_slice, asM_map, asTup0, asTup1, asTup2, asTup3, asTup4, asTup5, asTup6, asTup7, asTup8, asTup9, asAgg2, asAgg3, asAgg4, asAgg5, asAgg6, asAgg7, asAgg8, asAgg9, asAgg12, getD0, getD1, getD2, getD3, getD4, getD5, getD6, getD7, getD8, getD9, getD10, getD11, getD12, getD13, getD14, getD15, getD16, getD17, getD18, getD19, Bool.not_true, Bool.not_false, Bool.false_eq_true, Bool.true_eq_false, ↓reduceIte, decide_true, decide_false, Option.isNone_some, Option.isNone_none, Option.isSome_some, Option.isSome_none, beq_self_eq_true, bne_self_eq_false, Bool.and_true, Bool.true_and, Bool.and_false, Bool.false_and, not_true_eq_false, not_false_eq_true]
            rfl
          · have k9 : (t.st != 2) = true := by simp [s2]
            rw [if_neg (show ¬ epoch ≠ t.ep from fun h => h hep), if_pos (show t.st ≠ 2 from s2)]
            refine ⟨w', ?_, r3⟩
            simp only [k3, k4, k5, k6, k8, k9, r1, r2, obs, asP_pointer, asB_bool, asI_int, asS_string, asSl_slice, asM_map, asTup0, asTup1, asTup2, asTup3, asTup4, asTup5, asTup6, asTup7, asTup8, asTup9, asAgg2, asAgg3, asAgg4, asAgg5, asAgg6, asAgg7, asAgg8, asAgg9, asAgg12, getD0, getD1, getD2, getD3, getD4, getD5, getD6, getD7, getD8, getD9, getD10, getD11, getD12, getD13, getD14, getD15, getD16, getD17, getD18, getD19, Bool.not_true, Bool.not_false, Bool.false_eq_true, Bool.true_eq_false, ↓reduceIte, decide_true, decide_false, Option.isNone_some, Option.isNone_none, Option.isSome_some, Option.isSome_none, beq_self_eq_true, bne_self_eq_false, Bool.and_true, Bool.true_and, Bool.and_false, Bool.false_and, not_true_eq_false, not_false_eq_true]
            rfl
        · have k8 : (epoch != t.ep) = true := by simp [hep]
          rw [if_pos hep]
          refine ⟨w', ?_, r3⟩
          simp only [k3, k4, k5, k6, k8, r1, r2, obs, asP_pointer, asB_bool, asI_int, asS_string, asSl_slice, asM_map, asTup0, asTup1, asTup2, asTup3, asTup4, asTup5, asTup6, asTup7, asTup8, asTup9, asAgg2, asAgg3, asAgg4, asAgg5, asAgg6, asAgg7, asAgg8, asAgg9, asAgg12, getD0, getD1, getD2, getD3, getD4, getD5, getD6, getD7, getD8, getD9, getD10, getD11, getD12, getD13, getD14, getD15, getD16, getD17, getD18, getD19, Bool.not_true, Bool.not_false, Bool.false_eq_true, Bool.true_eq_false, ↓reduceIte, decide_true, decide_false, Option.isNone_some, Option.isNone_none, Option.isSome_some, Option.isSome_none, beq_self_eq_true, bne_self_eq_false, Bool.and_true, Bool.true_and, Bool.and_false, Bool.false_and, not_true_eq_false, not_false_eq_true]
          rfl
    · have k5 : (epoch == t.last) = false := by simp [hel]
      rw [rest (fun h => hel h.1)]
      by_cases hep : epoch = t.ep
      · have k8 : (epoch != t.ep) = false := by simp [hep]
        by_cases s2 : t.st = 2
        · have k9 : (t.st != 2) = false := by simp [s2]
          rw [if_neg (show ¬ epoch ≠ t.ep from fun h => h hep), if_neg (show ¬ t.st ≠ 2 from fun h => h s2)]
          refine ⟨w5, ?_, p3⟩
          simp only [k3, k4, k5, k8, k9, p1, p2, obs, asP_pointer, asB_bool, asI_int, asS_string, asSl_slice, asM_map, asTup0, asTup1, asTup2, asTup3, asTup4, asTup5, asTup6, asTup7, asTup8, asTup9, asAgg2, asAgg3, asAgg4, asAgg5, asAgg6, asAgg7, asAgg8, asAgg9, asAgg12, getD0, getD1, getD2, getD3, getD4, getD5, getD6, getD7, getD8, getD9, getD10, getD11, getD12, getD13, getD14, getD15, getD16, getD17, getD18, getD19, Bool.not_true, Bool.not_false, Bool.false_eq_true, Bool.true_eq_false, ↓reduceIte, decide_true, decide_false, Option.isNone_some, Option.isNone_none, Option.isSome_some, Option.isSome_none, beq_self_eq_true, bne_self_eq_false, Bool.and_true, Bool.true_and, Bool.and_false, Bool.false_and, not_true_eq_false, not_false_eq_true]
          rfl
        · have k9 : (t.st != 2) = true := by simp [s2]
          rw [if_neg (show ¬ epoch ≠ t.ep from fun h => h hep), if_pos (show t.st ≠ 2 from s2)]
          refine ⟨w', ?_, r3⟩
          simp only [k3, k4, k5, k8, k9, r1, r2, obs, asP_pointer, asB_bool, asI_int, asS_string, asSl_slice, asM_map, asTup0, asTup1, asTup2, asTup3, asTup4, asTup5, asTup6, asTup7, asTup8, asTup9, asAgg2, asAgg3, asAgg4, asAgg5, asAgg6, asAgg7, asAgg8, asAgg9, asAgg12, getD0, getD1, getD2, getD3, getD4, getD5, getD6, getD7, getD8, getD9, getD10, getD11, getD12, getD13, getD14, getD15, getD16, getD17, getD18, getD19, Bool.not_true, Bool.not_false, Bool.false_eq_true, Bool.true_eq_false, ↓reduceIte, decide_true, decide_false, Option.isNone_some, Option.isNone_none, Option.isSome_some, Option.isSome_none, beq_self_eq_true, bne_self_eq_false, Bool.and_true, Bool.true_and, Bool.and_false, Bool.false_and, not_true_eq_false, not_false_eq_true]
          rfl
      · have k8 : (epoch != t.ep) = true := by simp [hep]
        rw [if_pos hep]
        refine ⟨w', ?_, r3⟩
        simp only [k3, k4, k5, k8, r1, r2, obs, asP_pointer, asB_bool, asI_int, asS_string, asSl_slice, asM_map, asTup0, asTup1, asTup2, asTup3, asTup4, asTup5, asTup6, asTup7, asTup8, asTup9, asAgg2, asAgg3, asAgg4, asAgg5, asAgg6, asAgg7, asAgg8, asAgg9, asAgg12, getD0, getD1, getD2, getD3, getD4, getD5, getD6, getD7, getD8, getD9, getD10, getD11, getD12, getD13, getD14, getD15, getD16, getD17, getD18, getD19, Bool.not_true, Bool.not_false, Bool.false_eq_true, Bool.true_eq_false, ↓reduceIte, decide_true, decide_false, Option.isNone_some, Option.isNone_none, Option.isSome_some, Option.isSome_none, beq_self_eq_true, bne_self_eq_false, Bool.and_true, Bool.true_and, Bool.and_false, Bool.false_and, not_true_eq_false, not_false_eq_true]
        rfl
end
end Go.Proofs.Ytlcojbodcbjkaaa

namespace Go.Proofs.Ytlcojbodcbjkaaa
open Go Go.Ev
set_option maxRecDepth 100000
set_option linter.unusedVariables false
set_option linter.unusedSimpArgs false

theorem blk_put {w : World} {p : Nat} {cs : List Value} {T : TypeId} (h : Blk w p cs T) {i : Nat} (hi : i < cs.length) {v : Value} (hv : v.oneCell' = true) :
    ∃ w', st1 w ⟨p, i, none⟩ v = some w' ∧ Blk w' p (cs.set i v) T ∧ Fr [p] w w' := ⟨_, h.st1 hi hv, h.set i v, Fr.setCell⟩

def isort (l : List Int) : List Int := l.mergeSort
theorem isort_of {l l' : List Int} (h : l'.Perm l) (hs : l'.Pairwise (· ≤ ·)) : l' = isort l := by
  have h1 : (isort l).Pairwise (· ≤ ·) := by
    have := List.pairwise_mergeSort (le := fun a b : Int => decide (a ≤ b)) (by intro a b c; simp; omega) (by intro a b; simp; omega) l
    unfold isort
    exact this.imp (by intro a b; simp)
  exact List.Perm.eq_of_pairwise (by intro a b _ _ h1 h2; omega) hs h1 (h.trans (List.mergeSort_perm l _).symm)
def addAll (l ps : List Int) : List Int := ps.foldl (fun l p => if p ∈ l then l else l ++ [p]) l
theorem addAll_snoc (l ps : List Int) (p : Int) : addAll l (ps ++ [p]) = if p ∈ addAll l ps then addAll l ps else addAll l ps ++ [p] := by unfold addAll; rw [List.foldl_append]; rfl
theorem addAll_len (l ps : List Int) : (addAll l ps).length ≤ l.length + ps.length := by
  unfold addAll
  induction ps generalizing l with
  | nil => simp
  | cons p ps ih =>
    rw [List.foldl_cons]
    have := ih (if p ∈ l then l else l ++ [p])
    have h2 : (if p ∈ l then l else l ++ [p]).length ≤ l.length + 1 := by split <;> simp
    simp only [List.length_cons]
    omega

def stepT (r : RV) (t : TV) : TV :=
  if r.k = 1 then { t with st := 1, inc := r.inc, pid := r.pid, ep := r.ep, parts := [] }
  else if r.k = 2 then { t with st := 2, parts := isort (addAll t.parts r.parts) }
  else if r.k = 3 then { t with st := 3, last := t.ep, lpid := t.pid, com := r.com }
  else if r.k = 4 then { t with st := 4, ep := IntKind.i64.wrap (t.last + 2), parts := [] }
  else t

structure St (w : World) (g : Nat) (r : RV) (rq : Option Addr × Nat × Nat) (p : Nat) (v : TV) (q : Option Addr × Nat × Nat) : Prop where
  bb : Blk w g (r.cs rq) 30
  pe : Blk w p (v.cs q) 46
  ow : Own w 3 1 q (intsV' v.parts)
  sl : SlC w 1 rq (intsV' r.parts)
  ap : 0 < r.parts.length → ∀ y ∈ blkOf rq, y ≠ p ∧ y ∉ blkOf q

section
variable {w0 w : World} {r : RV} {rq q : Option Addr × Nat × Nat} {p : Nat} {v : TV}

theorem j8_init (h : St w w0.heap.size r rq p v q) (hk : r.k = 1) : ∃ w', g13_j8 w0 (some ⟨p, 0, none⟩) w = some (.tuple #[], w') ∧ Blk w' p ((stepT r v).cs (none, 0, 0)) 46 ∧ Fr [p] w w' := by
  have ng : w0.heap.size ≠ p := h.bb.ne h.pe (by decide)
  have fd := Fr.drew [] w
  have bd := h.bb.fr fd (by simp)
  obtain ⟨w1, s1, p1, f1⟩ := blk_put (h.pe.fr fd (by simp)) (i := 0) (v := .int .i64 1) (by simp [TV.cs]) rfl
  obtain ⟨w2, s2, p2, f2⟩ := blk_put p1 (i := 1) (v := .int .i64 r.inc) (by simp [TV.cs]) rfl
  obtain ⟨w3, s3, p3, f3⟩ := blk_put p2 (i := 2) (v := .int .u64 r.pid) (by simp [TV.cs]) rfl
  obtain ⟨w4, s4, p4, f4⟩ := blk_put p3 (i := 3) (v := .int .i64 r.ep) (by simp [TV.cs]) rfl
  obtain ⟨w5, s5, p5, f5⟩ := blk_put p4 (i := 4) (v := .slice none 0 0) (by simp [TV.cs]) rfl
  have b1 := bd.fr f1 (by simp; exact ng)
  have b2 := b1.fr f2 (by simp; exact ng)
  have b3 := b2.fr f3 (by simp; exact ng)
  have b4 := b3.fr f4 (by simp; exact ng)
  have k0 : w.cell? ⟨w0.heap.size, 0, none⟩ = some (.int .i64 r.k) := h.bb.cell 0
  have d2 : w.drew.cell? ⟨w0.heap.size, 2, none⟩ = some (.int .i64 r.inc) := bd.cell 2
  have d3 : w.drew.cell? ⟨w0.heap.size, 3, none⟩ = some (.int .u64 r.pid) := bd.cell 3
  have d4 : w.drew.cell? ⟨w0.heap.size, 4, none⟩ = some (.int .i64 r.ep) := bd.cell 4
  have e2 : w1.cell? ⟨w0.heap.size, 2, none⟩ = some (.int .i64 r.inc) := b1.cell 2
  have e3 : w1.cell? ⟨w0.heap.size, 3, none⟩ = some (.int .u64 r.pid) := b1.cell 3
  have e4 : w1.cell? ⟨w0.heap.size, 4, none⟩ = some (.int .i64 r.ep) := b1.cell 4
  have g3 : w2.cell? ⟨w0.heap.size, 3, none⟩ = some (.int .u64 r.pid) := b2.cell 3
  have g4 : w2.cell? ⟨w0.heap.size, 4, none⟩ = some (.int .i64 r.ep) := b2.cell 4
  have h4 : w3.cell? ⟨w0.heap.size, 4, none⟩ = some (.int .i64 r.ep) := b3.cell 4
  have hst : stepT r v = { v with st := 1, inc := r.inc, pid := r.pid, ep := r.ep, parts := [] } := by unfold stepT; rw [if_pos hk]
  rw [hst]
  have k1 : (r.k == 1) = true := by simp [hk]
  refine ⟨w5, ?_, p5, ((((((fd.app f1).app f2).app f3).app f4).app f5)).mono (by intro y hy hl; simpa using hy)⟩
  obtain ⟨L, hL⟩ : ∃ L, Region.schedule true (opsOf (cAt [1, 1, 1, 1, 1, 0, 1, 0] (bodyOf Try.f13))) (World.tape w (World.drawn w) (.order 13 8)) = L := ⟨_, rfl⟩
  unfold g13_j8
  simp only [k0, k1, g13_j43, g13_j46, g13_j48, g13_j53, g13_j68, g13_j70, g13_j76, g13_j95, g13_j115, g13_j116, g13_j123, g13_j131, g13_j148, g13_j161, g13_j171, obs, asP_pointer, asB_bool, asI_int, asS_string, asSl_slice, asM_map, asTup0, asTup1, asTup2, asTup3, asTup4, asTup5, asTup6, asTup7, asTup8, asTup9, asAgg2, asAgg3, asAgg4, asAgg5, asAgg6, asAgg7, asAgg8, asAgg9, asAgg12, getD0, getD1, getD2, getD3, getD4, getD5, getD6, getD7, getD8, getD9, getD10, getD11, getD12, getD13, getD14, getD15, getD16, getD17, getD18, getD19, Bool.not_true, Bool.not_false, Bool.false_eq_true, Bool.true_eq_false, ↓reduceIte, decide_true, decide_false, Option.isNone_some, Option.isNone_none, Option.isSome_some, Option.isSome_none, beq_self_eq_true, bne_self_eq_false, Bool.and_true, Bool.true_and, Bool.and_false, Bool.false_and, not_true_eq_false, not_false_eq_true]
  simp only [hL]
  simp only [addr_add, Nat.zero_add, d2, d3, d4, s1, e2, e3, e4, s2, g3, g4, s3, h4, s4, s5, ite_self, obs, asP_pointer, asB_bool, asI_int, asS_string, asSl_slice, asM_map, asTup0, asTup1, asTup2, asTup3, asTup4, asTup5, asTup6, asTup7, asTup8, asTup9, asAgg2, asAgg3, asAgg4, asAgg5, asAgg6, asAgg7, asAgg8, asAgg9, asAgg12, getD0, getD1, getD2, getD3, getD4, getD5, getD6, getD7, getD8, getD9, getD10, getD11, getD12, getD13, getD14, getD15, getD16, getD17, getD18, getD19, Bool.not_true, Bool.not_false, Bool.false_eq_true, Bool.true_eq_false, ↓reduceIte, decide_true, decide_false, Option.isNone_some, Option.isNone_none, Option.isSome_some, Option.isSome_none, beq_self_eq_true, bne_self_eq_false, Bool.and_true, Bool.true_and, Bool.and_false, Bool.false_and, not_true_eq_false, not_false_eq_true]

theorem j8_prep (h : St w w0.heap.size r rq p v q) (hk : r.k = 3) : ∃ w', g13_j8 w0 (some ⟨p, 0, none⟩) w = some (.tuple #[], w') ∧ Blk w' p ((stepT r v).cs q) 46 ∧ Fr [p] w w' := by
  have ng : w0.heap.size ≠ p := h.bb.ne h.pe (by decide)
  have fd := Fr.drew [] w
  have bd := h.bb.fr fd (by simp)
  have pd := h.pe.fr fd (by simp)
  obtain ⟨w1, s1, p1, f1⟩ := blk_put pd (i := 0) (v := .int .i64 3) (by simp [TV.cs]) rfl
  obtain ⟨w2, s2, p2, f2⟩ := blk_put p1 (i := 5) (v := .int .i64 v.ep) (by simp [TV.cs]) rfl
  obtain ⟨w3, s3, p3, f3⟩ := blk_put p2 (i := 6) (v := .int .u64 v.pid) (by simp [TV.cs]) rfl
  obtain ⟨w4, s4, p4, f4⟩ := blk_put p3 (i := 7) (v := .bool r.com) (by simp [TV.cs]) rfl
  have b1 := bd.fr f1 (by simp; exact ng)
  have b2 := b1.fr f2 (by simp; exact ng)
  have b3 := b2.fr f3 (by simp; exact ng)
  have k0 : w.cell? ⟨w0.heap.size, 0, none⟩ = some (.int .i64 r.k) := h.bb.cell 0
  have t3 : w.drew.cell? ⟨p, 3, none⟩ = some (.int .i64 v.ep) := pd.cell 3
  have t2 : w.drew.cell? ⟨p, 2, none⟩ = some (.int .u64 v.pid) := pd.cell 2
  have d6 : w.drew.cell? ⟨w0.heap.size, 6, none⟩ = some (.bool r.com) := bd.cell 6
  have e6 : w1.cell? ⟨w0.heap.size, 6, none⟩ = some (.bool r.com) := b1.cell 6
  have g6 : w2.cell? ⟨w0.heap.size, 6, none⟩ = some (.bool r.com) := b2.cell 6
  have h6 : w3.cell? ⟨w0.heap.size, 6, none⟩ = some (.bool r.com) := b3.cell 6
  have hst : stepT r v = { v with st := 3, last := v.ep, lpid := v.pid, com := r.com } := by unfold stepT; rw [if_neg (by omega), if_neg (by omega), if_pos hk]
  rw [hst]
  have k1 : (r.k == 1) = false := by simp [hk]
  have k2 : (r.k == 2) = false := by simp [hk]
  have k3 : (r.k == 3) = true := by simp [hk]
  refine ⟨w4, ?_, p4, (((((fd.app f1).app f2).app f3).app f4)).mono (by intro y hy hl; simpa using hy)⟩
  obtain ⟨L, hL⟩ : ∃ L, Region.schedule true (opsOf (cAt [1, 1, 1, 1, 1, 0, 1, 1, 1, 1, 1, 0] (bodyOf Try.f13))) (World.tape w (World.drawn w) (.order 13 19)) = L := ⟨_, rfl⟩
  unfold g13_j8
  simp only [k0, k1, k2, k3, g13_j253, g13_j268, g13_j277, obs, asP_pointer, asB_bool, asI_int, asS_string, asSl_slice, asM_map, asTup0, asTup1, asTup2, asTup3, asTup4, asTup5, asTup6, asTup7, asTup8, asTup9, asAgg2, asAgg3, asAgg4, asAgg5, asAgg6, asAgg7, asAgg8, asAgg9, asAgg12, getD0, getD1, getD2, getD3, getD4, getD5, getD6, getD7, getD8, getD9, getD10, getD11, getD12, getD13, getD14, getD15, getD16, getD17, getD18, getD19, Bool.not_true, Bool.not_false, Bool.false_eq_true, Bool.true_eq_false, ↓reduceIte, decide_true, decide_false, Option.isNone_some, Option.isNone_none, Option.isSome_some, Option.isSome_none, beq_self_eq_true, bne_self_eq_false, Bool.and_true, Bool.true_and, Bool.and_false, Bool.false_and, not_true_eq_false, not_false_eq_true]
  simp only [hL]
  simp only [addr_add, Nat.zero_add, t3, t2, d6, s1, e6, s2, g6, s3, h6, s4, ite_self, obs, asP_pointer, asB_bool, asI_int, asS_string, asSl_slice, asM_map, asTup0, asTup1, asTup2, asTup3, asTup4, asTup5, asTup6, asTup7, asTup8, asTup9, asAgg2, asAgg3, asAgg4, asAgg5, asAgg6, asAgg7, asAgg8, asAgg9, asAgg12, getD0, getD1, getD2, getD3, getD4, getD5, getD6, getD7, getD8, getD9, getD10, getD11, getD12, getD13, getD14, getD15, getD16, getD17, getD18, getD19, Bool.not_true, Bool.not_false, Bool.false_eq_true, Bool.true_eq_false, ↓reduceIte, decide_true, decide_false, Option.isNone_some, Option.isNone_none, Option.isSome_some, Option.isSome_none, beq_self_eq_true, bne_self_eq_false, Bool.and_true, Bool.true_and, Bool.and_false, Bool.false_and, not_true_eq_false, not_false_eq_true]

theorem j8_done (h : St w w0.heap.size r rq p v q) (hk : r.k = 4) : ∃ w', g13_j8 w0 (some ⟨p, 0, none⟩) w = some (.tuple #[], w') ∧ Blk w' p ((stepT r v).cs (none, 0, 0)) 46 ∧ Fr [p] w w' := by
  obtain ⟨w1, s1, p1, f1⟩ := blk_put h.pe (i := 0) (v := .int .i64 4) (by simp [TV.cs]) rfl
  obtain ⟨w2, s2, p2, f2⟩ := blk_put p1 (i := 3) (v := .int .i64 (IntKind.i64.wrap (v.last + 2))) (by simp [TV.cs]) rfl
  obtain ⟨w3, s3, p3, f3⟩ := blk_put p2 (i := 4) (v := .slice none 0 0) (by simp [TV.cs]) rfl
  have k0 : w.cell? ⟨w0.heap.size, 0, none⟩ = some (.int .i64 r.k) := h.bb.cell 0
  have t5 : w.cell? ⟨p, 5, none⟩ = some (.int .i64 v.last) := h.pe.cell 5
  have hst : stepT r v = { v with st := 4, ep := IntKind.i64.wrap (v.last + 2), parts := [] } := by unfold stepT; rw [if_neg (by omega), if_neg (by omega), if_neg (by omega), if_pos hk]
  rw [hst]
  have k1 : (r.k == 1) = false := by simp [hk]
  have k2 : (r.k == 2) = false := by simp [hk]
  have k3 : (r.k == 3) = false := by simp [hk]
  have k4 : (r.k == 4) = true := by simp [hk]
  refine ⟨w3, ?_, p3, ((f1.app f2).app f3).mono (by intro y hy hl; simpa using hy)⟩
  unfold g13_j8
  simp only [k0, k1, k2, k3, k4, addr_add, Nat.zero_add, t5, s1, s2, s3, obs, asP_pointer, asB_bool, asI_int, asS_string, asSl_slice, asM_map, asTup0, asTup1, asTup2, asTup3, asTup4, asTup5, asTup6, asTup7, asTup8, asTup9, asAgg2, asAgg3, asAgg4, asAgg5, asAgg6, asAgg7, asAgg8, asAgg9, asAgg12, getD0, getD1, getD2, getD3, getD4, getD5, getD6, getD7, getD8, getD9, getD10, getD11, getD12, getD13, getD14, getD15, getD16, getD17, getD18, getD19, Bool.not_true, Bool.not_false, Bool.false_eq_true, Bool.true_eq_false, ↓reduceIte, decide_true, decide_false, Option.isNone_some, Option.isNone_none, Option.isSome_some, Option.isSome_none, beq_self_eq_true, bne_self_eq_false, Bool.and_true, Bool.true_and, Bool.and_false, Bool.false_and, not_true_eq_false, not_false_eq_true]

theorem j8_none (h : St w w0.heap.size r rq p v q) (h1 : r.k ≠ 1) (h2 : r.k ≠ 2) (h3 : r.k ≠ 3) (h4 : r.k ≠ 4) : g13_j8 w0 (some ⟨p, 0, none⟩) w = some (.tuple #[], w) ∧ stepT r v = v := by
  have k0 : w.cell? ⟨w0.heap.size, 0, none⟩ = some (.int .i64 r.k) := h.bb.cell 0
  have k1 : (r.k == 1) = false := by simp [h1]
  have k2 : (r.k == 2) = false := by simp [h2]
  have k3 : (r.k == 3) = false := by simp [h3]
  have k4 : (r.k == 4) = false := by simp [h4]
  refine ⟨?_, by unfold stepT; rw [if_neg h1, if_neg h2, if_neg h3, if_neg h4]⟩
  unfold g13_j8
  simp only [k0, k1, k2, k3, k4, obs, asP_pointer, asB_bool, asI_int, asS_string, asSl_slice, asM_map, asTup0, asTup1, asTup2, asTup3, asTup4, asTup5, asTup6, asTup7, asTup8, asTup9, asAgg2, asAgg3, asAgg4, asAgg5, asAgg6, asAgg7, asAgg8, asAgg9, asAgg12, getD0, getD1, getD2, getD3, getD4, getD5, getD6, getD7, getD8, getD9, getD10, getD11, getD12, getD13, getD14, getD15, getD16, getD17, getD18, getD19, Bool.not_true, Bool.not_false, Bool.false_eq_true, Bool.true_eq_false, ↓reduceIte, decide_true, decide_false, Option.isNone_some, Option.isNone_none, Option.isSome_some, Option.isSome_none, beq_self_eq_true, bne_self_eq_false, Bool.and_true, Bool.true_and, Bool.and_false, Bool.false_and, not_true_eq_false, not_false_eq_true]

/-- the loop that adds -/
theorem adds {cs : List Value} (hpe : Blk w p cs 46) (hcs : cs.length = 8) (hc4 : cs[4]? = some (.slice q.1 q.2.1 q.2.2)) {l ps : List Int} (how : Own w 3 1 q (intsV' l)) (hsl : SlC w 1 rq (intsV' ps)) (hap : 0 < ps.length → ∀ y ∈ blkOf rq, y ≠ p ∧ y ∉ blkOf q) (hn : l.length + ps.length ≤ 100000000) :
    ∃ t w' q', loopS (g13_l191_b rq (some ⟨p, 0, none⟩)) 0 w = some (.exit 1, t, w') ∧ Blk w' p (cs.set 4 (.slice q'.1 q'.2.1 q'.2.2)) 46 ∧ Own w' 3 1 q' (intsV' (addAll l ps)) ∧ Fr (p :: blkOf q) w w' ∧ ∀ y ∈ blkOf q', y ∈ blkOf q ∨ w.heap.size ≤ y := by
  have hml : maxLen = 9223372036854775807 := by decide
  have hl0 := hsl.1
  simp only [intsV', List.length_map] at hl0
  have lp := hpe.lt
  obtain ⟨t, w', g1, rfl, q', o, b, f, n⟩ := loopS_countX 1 (b := g13_l191_b rq (some ⟨p, 0, none⟩)) (I := fun k s x => s = (k : Int) ∧ ∃ q' : Option Addr × Nat × Nat, Own x 3 1 q' (intsV' (addAll l (ps.take k))) ∧ Blk x p (cs.set 4 (.slice q'.1 q'.2.1 q'.2.2)) 46 ∧ Fr (p :: blkOf q) w x ∧ ∀ y ∈ blkOf q', y ∈ blkOf q ∨ w.heap.size ≤ y) (n := ps.length)
    (fun k s x hk ⟨hs, q', ho, hb, hf, hq'⟩ => by
      subst hs
      have k1 : decide ((k : Int) < (rq.2.1 : Int)) = true := by simp; omega
      have hslx := hsl.fr hf (fun h0 y hy hm => by
        simp only [List.mem_cons] at hm
        have := hap (by omega) y hy
        rcases hm with hm | hm
        · exact this.1 hm
        · exact this.2 hm)
      obtain ⟨a, i1, c1⟩ := hslx.get (i := k) (by simpa using hk)
      have c1' : x.cell? a = some (.int .i64 ps[k]) := by rw [c1]; simp
      have c4 : x.cell? ⟨p, 4, none⟩ = some (.slice q'.1 q'.2.1 q'.2.2) := by rw [hb.cell 4, List.getElem?_set]; simp; omega
      have hal := addAll_len l (ps.take k)
      have htl : (ps.take k).length ≤ k := by simp; omega
      have ec := contains32 (w := x) ho.slC (by omega) ps[k]
      have hw := wrap_succ (n := k) (by omega)
      have hstep : addAll l (ps.take (k + 1)) = if ps[k] ∈ addAll l (ps.take k) then addAll l (ps.take k) else addAll l (ps.take k) ++ [ps[k]] := by rw [List.take_succ_eq_append_getElem hk, addAll_snoc]
      rw [hstep]
      by_cases hm : ps[k] ∈ addAll l (ps.take k)
      · have k2 : decide (ps[k] ∈ addAll l (ps.take k)) = true := by simp [hm]
        rw [if_pos hm]
        refine ⟨_, x, ?_, rfl, q', ho, hb, hf, hq'⟩
        unfold g13_l191_b
        simp only [k1, i1, c1', addr_add, Nat.zero_add, c4, ec, k2, hw, obs, asP_pointer, asB_bool, asI_int, asS_string, asSl_slice, asM_map, asTup0, asTup1, asTup2, asTup3, asTup4, asTup5, asTup6, asTup7, asTup8, asTup9, asAgg2, asAgg3, asAgg4, asAgg5, asAgg6, asAgg7, asAgg8, asAgg9, asAgg12, getD0, getD1, getD2, getD3, getD4, getD5, getD6, getD7, getD8, getD9, getD10, getD11, getD12, getD13, getD14, getD15, getD16, getD17, getD18, getD19, Bool.not_true, Bool.not_false, Bool.false_eq_true, Bool.true_eq_false, ↓reduceIte, decide_true, decide_false, Option.isNone_some, Option.isNone_none, Option.isSome_some, Option.isSome_none, beq_self_eq_true, bne_self_eq_false, Bool.and_true, Bool.true_and, Bool.and_false, Bool.false_and, not_true_eq_false, not_false_eq_true]
      · have k2 : decide (ps[k] ∈ addAll l (ps.take k)) = false := by simp [hm]
        rw [if_neg hm]
        have hol := ho.len
        simp only [intsV', List.length_map] at hol
        obtain ⟨q2, x2, e2, o2, f2, n2, m2⟩ := app_one t28 ho (ys := [.int .i64 ps[k]]) rfl (by intro y hy; simp at hy; subst hy; rfl) (by omega) (by omega) 28 #[false, false]
        have z2 := f2.size
        have lpx := hb.lt
        have hpq : p ∉ blkOf q' := hb.notin ho (by decide)
        obtain ⟨x3, s3, b3, f3⟩ := blk_put (hb.fr f2 hpq) (i := 4) (v := .slice q2.1 q2.2.1 q2.2.2) (by simp; omega) rfl
        rw [List.set_set] at b3
        have zf := hf.size
        have hp2 : p ∉ blkOf q2 := (hb.fr f2 hpq).notin o2 (by decide)
        refine ⟨_, x3, ?_, rfl, q2, ?_, b3, ((hf.app f2).app f3).mono (by
          intro y hy hl
          simp only [List.mem_append, List.mem_cons, List.not_mem_nil, or_false] at hy
          simp only [List.mem_cons]
          rcases hy with (hy | hy) | hy
          · exact hy
          · rcases hq' y hy with hh | hh
            · exact .inr hh
            · omega
          · exact .inl hy), fun y hy => ?_⟩
        · unfold g13_l191_b
          simp only [k1, i1, c1', addr_add, Nat.zero_add, c4, ec, k2, e2, s3, hw, obs, asP_pointer, asB_bool, asI_int, asS_string, asSl_slice, asM_map, asTup0, asTup1, asTup2, asTup3, asTup4, asTup5, asTup6, asTup7, asTup8, asTup9, asAgg2, asAgg3, asAgg4, asAgg5, asAgg6, asAgg7, asAgg8, asAgg9, asAgg12, getD0, getD1, getD2, getD3, getD4, getD5, getD6, getD7, getD8, getD9, getD10, getD11, getD12, getD13, getD14, getD15, getD16, getD17, getD18, getD19, Bool.not_true, Bool.not_false, Bool.false_eq_true, Bool.true_eq_false, ↓reduceIte, decide_true, decide_false, Option.isNone_some, Option.isNone_none, Option.isSome_some, Option.isSome_none, beq_self_eq_true, bne_self_eq_false, Bool.and_true, Bool.true_and, Bool.and_false, Bool.false_and, not_true_eq_false, not_false_eq_true]
        · have e : intsV' (addAll l (ps.take k) ++ [ps[k]]) = intsV' (addAll l (ps.take k)) ++ [.int .i64 ps[k]] := by simp [intsV']
          rw [e]
          exact o2.fr f3 (fun y hy hm' => by simp at hm'; subst hm'; exact hp2 hy)
        · rcases n2 y hy with hh | hh
          · exact hq' y hh
          · right; omega)
    (fun s x ⟨hs, _⟩ => by
      subst hs
      unfold g13_l191_b
      have k1 : decide ((ps.length : Int) < (rq.2.1 : Int)) = false := by simp; omega
      simp only [k1, Bool.false_eq_true, if_false]) (k := 0) (s := 0) (w := w) (Nat.zero_le _) ⟨rfl, q, by simpa [addAll] using how, by
        have : cs.set 4 (.slice q.1 q.2.1 q.2.2) = cs := by
          apply List.ext_getElem?
          intro i
          rw [List.getElem?_set]
          split
          · rename_i h; subst h; rw [hc4]; simp; omega
          · rfl
        rw [this]; exact hpe, Fr.refl _ _, fun y hy => .inl hy⟩
  rw [List.take_length] at o
  exact ⟨_, w', q', g1, b, o, f, n⟩

theorem j8_add (h : St w w0.heap.size r rq p v q) (hk : r.k = 2) (hn : v.parts.length + r.parts.length ≤ 100000000) :
    ∃ w' q', g13_j8 w0 (some ⟨p, 0, none⟩) w = some (.tuple #[], w') ∧ Blk w' p ((stepT r v).cs q') 46 ∧ Own w' 3 1 q' (intsV' (stepT r v).parts) ∧ Fr (p :: blkOf q) w w' ∧ ∀ y ∈ blkOf q', y ∈ blkOf q ∨ w.heap.size ≤ y := by
  have ng : w0.heap.size ≠ p := h.bb.ne h.pe (by decide)
  obtain ⟨w1, s1, p1, f1⟩ := blk_put h.pe (i := 0) (v := .int .i64 2) (by simp [TV.cs]) rfl
  have b1 := h.bb.fr f1 (by simp; exact ng)
  have npq : p ∉ blkOf q := h.pe.notin h.ow (by decide)
  have o1 := h.ow.fr f1 (fun y hy hm => by simp at hm; subst hm; exact npq hy)
  have sl1 := h.sl.fr f1 (fun h0 y hy hm => by simp at hm; exact (h.ap (by simpa using h0) y hy).1 hm)
  have k0 : w.cell? ⟨w0.heap.size, 0, none⟩ = some (.int .i64 r.k) := h.bb.cell 0
  have c5 : w1.cell? ⟨w0.heap.size, 5, none⟩ = some (.slice rq.1 rq.2.1 rq.2.2) := b1.cell 5
  obtain ⟨t, w2, q2, g1, p2, o2, f2, n2⟩ := adds (rq := rq) (q := q) p1 (by simp [TV.cs]) (by simp [TV.cs]) o1 sl1 h.ap hn
  have c4 : w2.cell? ⟨p, 4, none⟩ = some (.slice q2.1 q2.2.1 q2.2.2) := p2.cell 4
  obtain ⟨w3, e3, o3, f3⟩ := SQ.sort33 o2 (by have h1 := o2.len; have h2 := addAll_len v.parts r.parts; simp only [intsV', List.length_map] at h1; omega)
  have hst : stepT r v = { v with st := 2, parts := isort (addAll v.parts r.parts) } := by unfold stepT; rw [if_neg (by omega), if_pos hk]
  rw [hst]
  have npq2 : p ∉ blkOf q2 := p2.notin o2 (by decide)
  have k1 : (r.k == 1) = false := by simp [hk]
  have k2 : (r.k == 2) = true := by simp [hk]
  have z1 := f1.size
  have z2 := f2.size
  refine ⟨w3, q2, ?_, p2.fr f3 npq2, o3, ((f1.app f2).app f3).mono (by
    intro y hy hl
    simp only [List.mem_append, List.mem_cons, List.not_mem_nil, or_false] at hy
    simp only [List.mem_cons]
    rcases hy with (hy | hy | hy) | hy
    · exact .inl hy
    · exact .inl hy
    · exact .inr hy
    · rcases n2 y hy with hh | hh
      · exact .inr hh
      · omega), fun y hy => by
    rcases n2 y hy with hh | hh
    · exact .inl hh
    · right; omega⟩
  unfold g13_j8
  simp only [k0, k1, k2, addr_add, Nat.zero_add, s1, c5, obs, asP_pointer, asB_bool, asI_int, asS_string, asSl_slice, asM_map, asTup0, asTup1, asTup2, asTup3, asTup4, asTup5, asTup6, asTup7, asTup8, asTup9, asAgg2, asAgg3, asAgg4, asAgg5, asAgg6, asAgg7, asAgg8, asAgg9, asAgg12, getD0, getD1, getD2, getD3, getD4, getD5, getD6, getD7, getD8, getD9, getD10, getD11, getD12, getD13, getD14, getD15, getD16, getD17, getD18, getD19, Bool.not_true, Bool.not_false, Bool.false_eq_true, Bool.true_eq_false, ↓reduceIte, decide_true, decide_false, Option.isNone_some, Option.isNone_none, Option.isSome_some, Option.isSome_none, beq_self_eq_true, bne_self_eq_false, Bool.and_true, Bool.true_and, Bool.and_false, Bool.false_and, not_true_eq_false, not_false_eq_true]
  rw [g13_l191_x1_of g1]
  unfold g13_l191_x1
  simp only [addr_add, Nat.zero_add, c4, e3, obs, asP_pointer, asB_bool, asI_int, asS_string, asSl_slice, asM_map, asTup0, asTup1, asTup2, asTup3, asTup4, asTup5, asTup6, asTup7, asTup8, asTup9, asAgg2, asAgg3, asAgg4, asAgg5, asAgg6, asAgg7, asAgg8, asAgg9, asAgg12, getD0, getD1, getD2, getD3, getD4, getD5, getD6, getD7, getD8, getD9, getD10, getD11, getD12, getD13, getD14, getD15, getD16, getD17, getD18, getD19, Bool.not_true, Bool.not_false, Bool.false_eq_true, Bool.true_eq_false, ↓reduceIte, decide_true, decide_false, Option.isNone_some, Option.isNone_none, Option.isSome_some, Option.isSome_none, beq_self_eq_true, bne_self_eq_false, Bool.and_true, Bool.true_and, Bool.and_false, Bool.false_and, not_true_eq_false, not_false_eq_true]
end
end Go.Proofs.Ytlcojbodcbjkaaa

namespace Go.Proofs.Ytlcojbodcbjkaaa
open Go Go.Ev
set_option maxRecDepth 100000
set_option linter.unusedVariables false
set_option linter.unusedSimpArgs false

theorem own_lt {w : World} {e : TypeId} {n : Nat} {v : Option Addr × Nat × Nat} {xs : List Value} (h : Own w e n v xs) : ∀ y ∈ blkOf v, y < w.heap.size := by
  intro y hy
  rcases h.at_ with ⟨h1, _⟩ | ⟨g, off, cur, h1, h2, _⟩
  · simp [blkOf, h1] at hy
  · simp [blkOf, h1] at hy
    subst hy
    exact lt_of_blk h2

def apA (A : List (Int × TV)) (r : RV) : List (Int × TV) := kups A r.tx (fun o => stepT r (o.getD tv0))

/-- all that a record does to a name in memory -/
theorem j8 {w0 w : World} {r : RV} {rq q : Option Addr × Nat × Nat} {p : Nat} {v : TV} (h : St w w0.heap.size r rq p v q) (hn : r.k = 2 → v.parts.length + r.parts.length ≤ 100000000) :
    ∃ w' q', g13_j8 w0 (some ⟨p, 0, none⟩) w = some (.tuple #[], w') ∧ Blk w' p ((stepT r v).cs q') 46 ∧ Own w' 3 1 q' (intsV' (stepT r v).parts) ∧ Fr (p :: blkOf q) w w' ∧ ∀ y ∈ blkOf q', y ∈ blkOf q ∨ w.heap.size ≤ y := by
  have npq : p ∉ blkOf q := h.pe.notin h.ow (by decide)
  by_cases h1 : r.k = 1
  · obtain ⟨w', e, b, f⟩ := j8_init h h1
    have hst : (stepT r v).parts = [] := by unfold stepT; rw [if_pos h1]
    exact ⟨w', (none, 0, 0), e, b, by rw [hst]; exact Own.nil _ _ _, f.mono (by intro y hy hl; simp at hy; simp [hy]), by simp [blkOf]⟩
  by_cases h2 : r.k = 2
  · exact j8_add h h2 (hn h2)
  by_cases h3 : r.k = 3
  · obtain ⟨w', e, b, f⟩ := j8_prep h h3
    have hst : (stepT r v).parts = v.parts := by unfold stepT; rw [if_neg h1, if_neg h2, if_pos h3]
    exact ⟨w', q, e, b, by rw [hst]; exact h.ow.fr f (fun y hy hm => by simp at hm; subst hm; exact npq hy), f.mono (by intro y hy hl; simp at hy; simp [hy]), fun y hy => .inl hy⟩
  by_cases h4 : r.k = 4
  · obtain ⟨w', e, b, f⟩ := j8_done h h4
    have hst : (stepT r v).parts = [] := by unfold stepT; rw [if_neg h1, if_neg h2, if_neg h3, if_pos h4]
    exact ⟨w', (none, 0, 0), e, b, by rw [hst]; exact Own.nil _ _ _, f.mono (by intro y hy hl; simp at hy; simp [hy]), by simp [blkOf]⟩
  obtain ⟨e, hst⟩ := j8_none h h1 h2 h3 h4
  rw [hst]
  exact ⟨w, q, e, h.pe, h.ow, Fr.refl _ _, fun y hy => .inl hy⟩

section
variable {w : World} {D : Nat → Prop} {tb : Nat} {A : List (Int × TV)}

theorem tb_put {x x' : World} {r : Nat} {fs : List PE} {i : Nat} (hi : i < fs.length) {f' : PE}
    (h2 : Blk x tb [.map (some r)] 71) (h4 : MapAt (Value.int .i64) x r (keysOf fs)) (h5 : Ps x D fs) (h6 : D r) (hdb : D tb) (hlt : ∀ y, D y → y < x.heap.size)
    (n1 : f'.pb = fs[i].pb) (n2 : f'.pid = fs[i].pid) (sb : Blk x' f'.pb f'.cs 46) (so : Own x' 3 1 f'.q (intsV' f'.pv.parts)) (F : Fr (fs[i].pb :: blkOf fs[i].q) x x') (k6 : ∀ y ∈ blkOf f'.q, y ∈ blkOf fs[i].q ∨ x.heap.size ≤ y) :
    ∃ D', Tb x' D' tb ((fs.set i f').map PE.ab) ∧ Chg D x x' D' := by
  have ok0 := h5.ok i hi
  have z := F.size
  have lf := own_lt so
  have hD : ∀ y, D y → (D y ∨ x.heap.size ≤ y ∧ y < x'.heap.size) := fun y hy => .inl hy
  have hk : keysOf (fs.set i f') = keysOf fs := by
    unfold keysOf
    rw [List.map_set]
    have : (f'.pid, Value.pointer (some ⟨f'.pb, 0, none⟩)) = (fs.map fun f => (f.pid, Value.pointer (some ⟨f.pb, 0, none⟩)))[i]'(by simpa using hi) := by simp [n1, n2]
    rw [this]
    exact List.set_getElem_self _
  have tbl : Blk x' tb [.map (some r)] 71 := h2.fr F (by
    simp only [List.mem_cons]
    rintro (hh | hh)
    · exact h2.ne ok0.blk (by decide) hh
    · exact h2.notin ok0.own (by decide) hh)
  refine ⟨fun y => D y ∨ x.heap.size ≤ y ∧ y < x'.heap.size, ⟨⟨r, fs.set i f', rfl, tbl, ?_, ?_, .inl h6⟩, .inl hdb, ?_⟩, ⟨⟨_, F, ?_⟩, hD, ?_⟩⟩
  · rw [hk]
    refine h4.fr F ?_
    have a2 := h4.ne_blk ok0.blk
    have a4 := h4.notin ok0.own
    simp only [List.mem_cons]
    rintro (hh | hh)
    · exact a2 hh
    · exact a4 hh
  · refine h5.set hi n2 n1 F ?_ hD ?_ k6
    · intro y hy
      simp only [List.mem_cons] at hy
      rcases hy with hh | hh
      · exact .inl hh
      · exact .inr (.inl hh)
    · refine ⟨sb, so, .inl (n1 ▸ ok0.reg.1), fun y hy => ?_⟩
      rcases k6 y hy with hh | hh
      · exact .inl (ok0.reg.2 y hh)
      · exact .inr ⟨hh, lf y hy⟩
  · intro y hy
    rcases hy with hy | hy
    · have := hlt y hy; omega
    · exact hy.2
  · intro y hy
    simp only [List.mem_cons] at hy
    rcases hy with hh | hh
    · exact hh ▸ ok0.reg.1
    · exact ok0.reg.2 y hh
  · intro y hy
    rcases hy with hy | hy
    · exact .inl hy
    · exact .inr hy.1

theorem apply13 {r : RV} {rq : Option Addr × Nat × Nat} (h : Tb w D tb A) (sl : SlC w 1 rq (intsV' r.parts)) (hrd : 0 < r.parts.length → ∀ y ∈ blkOf rq, ¬ D y ∧ y < w.heap.size)
    (hn : r.k = 2 → (tvOf A r.tx).parts.length + r.parts.length ≤ 100000000) :
    ∃ w' D', callF Try.prog 13 #[.pointer (some ⟨tb, 0, none⟩), r.arg rq] w = some (.tuple #[], w') ∧ Tb w' D' tb (apA A r) ∧ Chg D w w' D' := by
  have f1 : Fr [] w (w.alloc (.cells #[.int .i64 r.k, .int .i64 r.tx, .int .i64 r.inc, .int .u64 r.pid, .int .i64 r.ep, .slice rq.1 rq.2.1 rq.2.2, .bool r.com] 30)) := Fr.alloc _
  have s1 : Blk (w.alloc (.cells #[.int .i64 r.k, .int .i64 r.tx, .int .i64 r.inc, .int .u64 r.pid, .int .i64 r.ep, .slice rq.1 rq.2.1 rq.2.2, .bool r.com] 30)) w.heap.size (r.cs rq) 30 := Blk.new w (r.cs rq) 30
  obtain ⟨v, hv1⟩ : ∃ v, w.alloc (.cells #[.int .i64 r.k, .int .i64 r.tx, .int .i64 r.inc, .int .u64 r.pid, .int .i64 r.ep, .slice rq.1 rq.2.1 rq.2.2, .bool r.com] 30) = v := ⟨_, rfl⟩
  rw [hv1] at s1 f1
  have call := fun R => g13_call (u0 := some ⟨tb, 0, none⟩) (u1c0 := r.k) (u1c1 := r.tx) (u1c2 := r.inc) (u1c3 := r.pid) (u1c4 := r.ep) (u1c5 := rq) (u1c6 := r.com) (w0 := w) (r := R)
  have fd := Fr.drew [] v
  have F1 : Fr [] w v.drew := (Fr.mono (Fr.app f1 fd) (by have z0_ := Fr.size f1; have z1_ := Fr.size fd; intro y_ hy_ hl_; grind [blkOf]))
  have bb := s1.fr fd (by simp)
  have sl1 := sl.fr F1 (fun _ y _ => by simp)
  have h1 := h.fr F1 (by simp)
  obtain ⟨rm, fs, rfl, h2, h4, h5, h6⟩ := h1.ex
  have t0 : v.drew.cell? ⟨tb, 0, none⟩ = some (.map (some rm)) := h2.cell 0
  have d1 : v.drew.cell? ⟨w.heap.size, 1, none⟩ = some (.int .i64 r.tx) := bb.cell 1
  have lk := look_nm h4 r.tx
  have hchg : ∀ {x' : World} {D' : Nat → Prop}, Chg D v.drew x' D' → Chg D w x' D' := by
    intro x' D' c
    obtain ⟨S, f, hS⟩ := c.fr
    have n := c.new
    have z := F1.size
    exact ⟨⟨S, (Fr.mono (Fr.app F1 f) (by have z0_ := Fr.size F1; have z1_ := Fr.size f; intro y_ hy_ hl_; grind [blkOf])), hS⟩, c.up, fun y hy => (n y hy).imp id (fun hh => by omega)⟩
  rcases keysOf_get fs r.tx with ⟨i, hi, k1, k2, k3, k4⟩ | ⟨k1, k2, k3, k4⟩
  · rw [k2] at lk
    have hv : tvOf (fs.map PE.ab) r.tx = fs[i].pv := by unfold tvOf; rw [k3]; rfl
    rw [hv] at hn
    have ok := h5.ok i hi
    have st : St v.drew w.heap.size r rq fs[i].pb fs[i].pv fs[i].q := ⟨bb, ok.blk, ok.own, sl1, fun h0 y hy => ⟨fun e => (hrd h0 y hy).1 (e ▸ ok.reg.1), fun hm => (hrd h0 y hy).1 (ok.reg.2 y hm)⟩⟩
    obtain ⟨x', q', e, sb, so, F, k6⟩ := j8 st hn
    obtain ⟨D', ht, hc⟩ := tb_put (f' := ⟨fs[i].pid, fs[i].pb, q', stepT r fs[i].pv⟩) hi h2 h4 h5 h6 h1.db h1.lt rfl rfl sb so F k6
    have ea : apA (fs.map PE.ab) r = (fs.set i ⟨fs[i].pid, fs[i].pb, q', stepT r fs[i].pv⟩).map PE.ab := by
      unfold apA
      rw [k4, List.map_set]
      have : PE.ab ⟨fs[i].pid, fs[i].pb, q', stepT r fs[i].pv⟩ = (r.tx, stepT r fs[i].pv) := by unfold PE.ab; rw [k1]
      rw [this]; rfl
    rw [ea]
    refine ⟨x', D', call _ ?_, ht, hchg hc⟩
    have hD : ∀ x : Value, (some x).getD (.pointer none) = x := fun _ => rfl
    unfold g13
    simp only [hv1, addr_add, Nat.zero_add, t0, d1, lk, hD, e, obs, asP_pointer, asB_bool, asI_int, asS_string, asSl_slice, asM_map, asTup0, asTup1, asTup2, asTup3, asTup4, asTup5, asTup6, asTup7, asTup8, asTup9, asAgg2, asAgg3, asAgg4, asAgg5, asAgg6, asAgg7, asAgg8, asAgg9, asAgg12, getD0, getD1, getD2, getD3, getD4, getD5, getD6, getD7, getD8, getD9, getD10, getD11, getD12, getD13, getD14, getD15, getD16, getD17, getD18, getD19, Bool.not_true, Bool.not_false, Bool.false_eq_true, Bool.true_eq_false, ↓reduceIte, decide_true, decide_false, Option.isNone_some, Option.isNone_none, Option.isSome_some, Option.isSome_none, beq_self_eq_true, bne_self_eq_false, Bool.and_true, Bool.true_and, Bool.and_false, Bool.false_and, not_true_eq_false, not_false_eq_true]
  · rw [k1] at lk
    have hv : tvOf (fs.map PE.ab) r.tx = tv0 := by unfold tvOf; rw [k2]; rfl
    rw [hv] at hn
    have hD : (none : Option Value).getD (.pointer none) = .pointer none := rfl
    have fa : Fr [] v.drew (v.drew.alloc (.cells #[.int .i64 0, .int .i64 0, .int .u64 0, .int .i64 0, .slice none 0 0, .int .i64 (-1), .int .u64 0, .bool false] 46)) := Fr.alloc _
    have pn := Blk.new v.drew (tv0.cs (none, 0, 0)) 46
    change Blk (v.drew.alloc (.cells #[.int .i64 0, .int .i64 0, .int .u64 0, .int .i64 0, .slice none 0 0, .int .i64 (-1), .int .u64 0, .bool false] 46)) _ _ _ at pn
    have za : (v.drew.alloc (.cells #[.int .i64 0, .int .i64 0, .int .u64 0, .int .i64 0, .slice none 0 0, .int .i64 (-1), .int .u64 0, .bool false] 46)).heap.size = v.drew.heap.size + 1 := Array.size_push _
    obtain ⟨y, hy⟩ : ∃ y, v.drew.alloc (.cells #[.int .i64 0, .int .i64 0, .int .u64 0, .int .i64 0, .slice none 0 0, .int .i64 (-1), .int .u64 0, .bool false] 46) = y := ⟨_, rfl⟩
    rw [hy] at fa pn za
    have fy := Fr.drew [] y
    have F2 : Fr [] v.drew y.drew := (Fr.mono (Fr.app fa fy) (by have z0_ := Fr.size fa; have z1_ := Fr.size fy; intro y_ hy_ hl_; grind [blkOf]))
    have pn2 := pn.fr fy (by simp)
    have m2 := h4.fr F2 (by simp)
    obtain ⟨u, eu, mu, fu⟩ := m2.upd (keyOk_int .i64) r.tx (.pointer (some ⟨v.drew.heap.size, 0, none⟩))
    rw [insA_new k1] at mu
    have tb2 := h2.fr F2 (by simp)
    have bb2 := bb.fr F2 (by simp)
    have sl2 := sl1.fr F2 (fun _ y _ => by simp)
    have r1 := m2.ne_blk tb2
    have r2 := m2.ne_blk pn2
    have r4 := m2.ne_blk bb2
    have F3 : Fr [rm] v.drew u := (Fr.mono (Fr.app F2 fu) (by have z0_ := Fr.size F2; have z1_ := Fr.size fu; intro y_ hy_ hl_; grind [blkOf]))
    have zu := F3.size
    have zu2 := fu.size
    have zv := F1.size
    have zy : y.drew.heap.size = v.drew.heap.size + 1 := za
    have pnu := pn2.fr fu (by simpa using r2.symm)
    have tbu := tb2.fr fu (by simpa using r1.symm)
    have bbu := bb2.fr fu (by simpa using r4.symm)
    have slu := sl2.fr fu (fun h0 z hz hm => by simp at hm; subst hm; exact (hrd (by simpa using h0) _ hz).1 h6)
    obtain ⟨f0, hf0⟩ : ∃ f0 : PE, f0 = ⟨r.tx, v.drew.heap.size, (none, 0, 0), tv0⟩ := ⟨_, rfl⟩
    have ok0 : PeOk u (fun z => D z ∨ z = v.drew.heap.size) f0 := by
      subst hf0
      exact ⟨pnu, Own.nil _ _ _, .inr rfl, by simp [blkOf]⟩
    have ps : Ps u (fun z => D z ∨ z = v.drew.heap.size) (fs ++ [f0]) := by
      refine h5.push (f := f0) (by intro j hj; rw [hf0]; exact k3 j hj) F3 ?_ (fun z hz => .inl hz) ok0 (by rw [hf0]; exact Nat.le_refl _) (by rw [hf0]; simp [blkOf])
      intro z hz j hj
      simp at hz; subst hz
      exact ⟨h4.ne_blk (h5.ok j hj).blk, h4.notin (h5.ok j hj).own⟩
    have hkeys : keysOf (fs ++ [f0]) = keysOf fs ++ [(r.tx, .pointer (some ⟨v.drew.heap.size, 0, none⟩))] := by subst hf0; simp [keysOf]
    have mu' : MapAt (Value.int .i64) u rm (keysOf (fs ++ [f0])) := by rw [hkeys]; exact mu
    have hlen : fs.length < (fs ++ [f0]).length := by simp
    have hget : (fs ++ [f0])[fs.length]'hlen = f0 := by simp
    have st : St u w.heap.size r rq v.drew.heap.size tv0 (none, 0, 0) := ⟨bbu, pnu, Own.nil _ _ _, slu, fun h0 z hz => ⟨by have := (hrd h0 z hz).2; omega, by simp [blkOf]⟩⟩
    obtain ⟨x', q', e, sb, so, F, k6⟩ := j8 st hn
    have hltu : ∀ z, (D z ∨ z = v.drew.heap.size) → z < u.heap.size := by
      intro z hz
      rcases hz with hz | hz
      · have := h1.lt z hz; omega
      · omega
    obtain ⟨D', ht, hc⟩ := tb_put (D := fun z => D z ∨ z = v.drew.heap.size) (f' := ⟨r.tx, v.drew.heap.size, q', stepT r tv0⟩) hlen tbu mu' ps (.inl h6) (.inl h1.db) hltu (by rw [hget, hf0]) (by rw [hget, hf0]) sb so (by rw [hget, hf0]; exact F) (by rw [hget, hf0]; exact k6)
    have c0 : Chg D v.drew u (fun z => D z ∨ z = v.drew.heap.size) := ⟨⟨[rm], F3, by intro z hz; simp at hz; subst hz; exact h6⟩, fun z hz => .inl hz, fun z hz => hz.imp id (fun hh => by omega)⟩
    have ea : apA (fs.map PE.ab) r = ((fs ++ [f0]).set fs.length ⟨r.tx, v.drew.heap.size, q', stepT r tv0⟩).map PE.ab := by
      unfold apA
      rw [k4]
      simp [PE.ab]
    rw [ea]
    refine ⟨x', D', call _ ?_, ht, hchg (c0.trans hc h1.lt)⟩
    have t2 : y.drew.cell? ⟨tb, 0, none⟩ = some (.map (some rm)) := tb2.cell 0
    have b2 : y.drew.cell? ⟨w.heap.size, 1, none⟩ = some (.int .i64 r.tx) := bb2.cell 1
    unfold g13
    simp only [hv1, addr_add, Nat.zero_add, t0, d1, lk, hD, hy, t2, b2, eu, e, obs, asP_pointer, asB_bool, asI_int, asS_string, asSl_slice, asM_map, asTup0, asTup1, asTup2, asTup3, asTup4, asTup5, asTup6, asTup7, asTup8, asTup9, asAgg2, asAgg3, asAgg4, asAgg5, asAgg6, asAgg7, asAgg8, asAgg9, asAgg12, getD0, getD1, getD2, getD3, getD4, getD5, getD6, getD7, getD8, getD9, getD10, getD11, getD12, getD13, getD14, getD15, getD16, getD17, getD18, getD19, Bool.not_true, Bool.not_false, Bool.false_eq_true, Bool.true_eq_false, ↓reduceIte, decide_true, decide_false, Option.isNone_some, Option.isNone_none, Option.isSome_some, Option.isSome_none, beq_self_eq_true, bne_self_eq_false, Bool.and_true, Bool.true_and, Bool.and_false, Bool.false_and, not_true_eq_false, not_false_eq_true]
end
end Go.Proofs.Ytlcojbodcbjkaaa

namespace Go.Proofs.Ytlcojbodcbjkaaa
open Go Go.Ev
set_option maxRecDepth 100000
set_option linter.unusedVariables false
set_option linter.unusedSimpArgs false

/-- a record in a block of its own -/
theorem newR (x : World) (r : RV) (q : Option Addr × Nat × Nat) : ∃ x', stL (x.alloc (.cells #[.int .i64 0, .int .i64 0, .int .i64 0, .int .u64 0, .int .i64 0, .slice none 0 0, .bool false] 30)) ⟨x.heap.size, 0, none⟩ [.int .i64 r.k, .int .i64 r.tx, .int .i64 r.inc, .int .u64 r.pid, .int .i64 r.ep, .slice q.1 q.2.1 q.2.2, .bool r.com] 0 = some x' ∧
    Blk x' x.heap.size (r.cs q) 30 ∧ Fr [] x x' ∧ ldN x' ⟨x.heap.size, 0, none⟩ 0 7 = some [.int .i64 r.k, .int .i64 r.tx, .int .i64 r.inc, .int .u64 r.pid, .int .i64 r.ep, .slice q.1 q.2.1 q.2.2, .bool r.com] := by
  obtain ⟨b, f⟩ := zero30 x
  obtain ⟨x', h1, h2, h3⟩ := b.stL (vs := r.cs q) rfl (rvcs_oc r q)
  have z := f.size
  exact ⟨x', h1, h2, (f.app h3).mono (by intro y hy hl; simp at hy; omega), h2.ldN (n := 7) rfl⟩

theorem awake11 (w : World) : ∃ w', callF Try.prog 11 #[] w = some (.bool true, w') ∧ Fr [] w w' := by
  obtain ⟨w1, D1, e1, t1, f1, n1⟩ := new10 w
  have l1 := t1.lt
  obtain ⟨w2, e2, f2⟩ := init14 t1 0 1 5 (fun v hv => by simp [kget_nil] at hv)
  have hi : initP (tvOf [] 0) 0 1 5 = (⟨1, 0, 1, 5, 0, [], false⟩, true, 0) := by simp [initP, tvOf, kget_nil, tv0]
  rw [hi] at e2
  obtain ⟨w3, s3, b3, f3, d3⟩ := newR w2 ⟨1, 0, 1, 5, 0, [], false⟩ (none, 0, 0)
  have F3 : Fr [] w1 w3 := (Fr.mono (Fr.app f2 f3) (by have z0_ := Fr.size f2; have z1_ := Fr.size f3; intro y_ hy_ hl_; grind [blkOf]))
  obtain ⟨w4, D4, e4, t4, c4⟩ := apply13 (r := ⟨1, 0, 1, 5, 0, [], false⟩) (rq := (none, 0, 0)) (t1.fr F3 (by simp)) ⟨rfl, by simp⟩ (by simp) (by simp)
  have hA : apA [] ⟨1, 0, 1, 5, 0, [], false⟩ = [(0, ⟨1, 1, 5, 0, [], -1, 0, false⟩)] := by simp [apA, kups, stepT, tv0]
  rw [hA] at t4
  obtain ⟨S4, f4, hS4⟩ := c4.fr
  obtain ⟨q5, w5, e5, f5, sl5, _⟩ := add16 t4 0 5 0 2 (fun v hv => by simp [kget_cons] at hv; rw [← hv]; simp)
  have ht : tvOf [(0, (⟨1, 1, 5, 0, [], -1, 0, false⟩ : TV))] 0 = ⟨1, 1, 5, 0, [], -1, 0, false⟩ := rfl
  rw [ht] at e5 sl5
  have ha : addP ⟨1, 1, 5, 0, [], -1, 0, false⟩ 0 5 0 2 = (⟨2, 0, 0, 0, 0, [2], false⟩, true, 0) := by simp [addP]
  rw [ha] at e5 sl5
  have hq5 : q5.2.1 = 1 := by have := sl5.1; simp at this; omega
  obtain ⟨w6, s6, b6, f6, d6⟩ := newR w5 ⟨2, 0, 0, 0, 0, [2], false⟩ q5
  have z1 := f1.size
  have z3 := F3.size
  have ng : w2.heap.size ∉ S4 := fun hm => by have := l1 _ (hS4 _ hm); have := f2.size; omega
  have b3' := ((b3.fr f4 ng).fr f5 (by simp)).fr f6 (by simp)
  have c0 : w6.cell? ⟨w2.heap.size, 0, none⟩ = some (.int .i64 1) := b3'.cell 0
  have c3 : w6.cell? ⟨w2.heap.size, 3, none⟩ = some (.int .u64 5) := b3'.cell 3
  have g0 : w6.cell? ⟨w5.heap.size, 0, none⟩ = some (.int .i64 2) := b6.cell 0
  have g5 : w6.cell? ⟨w5.heap.size, 5, none⟩ = some (.slice q5.1 q5.2.1 q5.2.2) := b6.cell 5
  have F6 : Fr [] w w6 := ((((f1.app F3).app f4).app f5).app f6).mono (by
    intro y hy hl
    simp only [List.nil_append, List.append_nil] at hy
    have := n1 y (hS4 y hy)
    omega)
  refine ⟨w6, g11_call ?_, F6⟩
  have e2' : callF Try.prog 14 #[.pointer (some ⟨w.heap.size + 1, 0, none⟩), .int .i64 0, .int .i64 1, .int .u64 5] w1 = some (.tuple #[.agg #[.int .i64 1, .int .i64 0, .int .i64 1, .int .u64 5, .int .i64 0, .slice none 0 0, .bool false], .bool true, .int .i64 0], w2) := e2
  have e4' : callF Try.prog 13 #[.pointer (some ⟨w.heap.size + 1, 0, none⟩), .agg #[.int .i64 1, .int .i64 0, .int .i64 1, .int .u64 5, .int .i64 0, .slice none 0 0, .bool false]] w3 = some (.tuple #[], w4) := e4
  have e5' : callF Try.prog 16 #[.pointer (some ⟨w.heap.size + 1, 0, none⟩), .int .i64 0, .int .u64 5, .int .i64 0, .int .i64 2] w4 = some (.tuple #[.agg #[.int .i64 2, .int .i64 0, .int .i64 0, .int .u64 0, .int .i64 0, .slice q5.1 q5.2.1 q5.2.2, .bool false], .bool true, .int .i64 0], w5) := e5
  unfold g11
  simp only [e1, e2', s3, d3, e4', e5', s6, addr_add, Nat.zero_add, c0, c3, g0, g5, obs, asP_pointer, asB_bool, asI_int, asS_string, asSl_slice, asM_map, asTup0, asTup1, asTup2, asTup3, asTup4, asTup5, asTup6, asTup7, asTup8, asTup9, asAgg2, asAgg3, asAgg4, asAgg5, asAgg6, asAgg7, asAgg8, asAgg9, asAgg12, getD0, getD1, getD2, getD3, getD4, getD5, getD6, getD7, getD8, getD9, getD10, getD11, getD12, getD13, getD14, getD15, getD16, getD17, getD18, getD19, Bool.not_true, Bool.not_false, Bool.false_eq_true, Bool.true_eq_false, ↓reduceIte, decide_true, decide_false, Option.isNone_some, Option.isNone_none, Option.isSome_some, Option.isSome_none, beq_self_eq_true, bne_self_eq_false, Bool.and_true, Bool.true_and, Bool.and_false, Bool.false_and, not_true_eq_false, not_false_eq_true]
  simp [hq5]
end Go.Proofs.Ytlcojbodcbjkaaa
