/-
  TxnD: lemmas on what Go functions of this seat come to (for whatever arguments, as each says). No condition but those that stand in each lemma.
-/
import Derived.Test.YtlcojbodcbjkaaaTxnC
namespace Go.Proofs.Ytlcojbodcbjkaaa
open Go Go.Ev
set_option maxRecDepth 100000
set_option linter.unusedVariables false
set_option linter.unusedSimpArgs false

/-- what is known of a name -/
structure TV where
  st : Int
  inc : Int
  pid : Int
  ep : Int
  parts : List Int
  last : Int
  lpid : Int
  com : Bool
def tv0 : TV := ⟨0, 0, 0, 0, [], -1, 0, false⟩
def TV.cs (v : TV) (q : Option Addr × Nat × Nat) : List Value := [.int .i64 v.st, .int .i64 v.inc, .int .u64 v.pid, .int .i64 v.ep, .slice q.1 q.2.1 q.2.2, .int .i64 v.last, .int .u64 v.lpid, .bool v.com]

/-- a name in memory -/
structure PE where
  pid : Int
  pb : Nat
  q : Option Addr × Nat × Nat
  pv : TV
def PE.cs (f : PE) : List Value := f.pv.cs f.q
def PE.ab (f : PE) : Int × TV := (f.pid, f.pv)
def keysOf (fs : List PE) : List (Int × Value) := fs.map fun f => (f.pid, .pointer (some ⟨f.pb, 0, none⟩))
abbrev intsV' (l : List Int) : List Value := l.map (Value.int .i64)

structure PeOk (w : World) (D : Nat → Prop) (f : PE) : Prop where
  blk : Blk w f.pb f.cs 46
  own : Own w 3 1 f.q (intsV' f.pv.parts)
  reg : D f.pb ∧ ∀ y ∈ blkOf f.q, D y

theorem PeOk.fr {w w' : World} {D D' : Nat → Prop} {f : PE} {S : List Nat} (h : PeOk w D f) (hf : Fr S w w') (h1 : f.pb ∉ S) (h2 : ∀ y ∈ blkOf f.q, y ∉ S) (hD : ∀ y, D y → D' y) : PeOk w' D' f :=
  ⟨h.blk.fr hf h1, h.own.fr hf h2, hD _ h.reg.1, fun y hy => hD y (h.reg.2 y hy)⟩

structure Ps (w : World) (D : Nat → Prop) (fs : List PE) : Prop where
  ok : ∀ i (h : i < fs.length), PeOk w D fs[i]
  ap : ∀ i j (hi : i < fs.length) (hj : j < fs.length), i ≠ j → fs[i].pb ≠ fs[j].pb ∧ fs[i].pid ≠ fs[j].pid ∧ ∀ y ∈ blkOf fs[i].q, y ∉ blkOf fs[j].q

theorem PeOk.apart {w : World} {D : Nat → Prop} {f g : PE} (h : PeOk w D f) (h' : PeOk w D g) : f.pb ∉ blkOf g.q := h.blk.notin h'.own (by decide)

theorem Ps.fr {w w' : World} {D D' : Nat → Prop} {fs : List PE} {S : List Nat} (h : Ps w D fs) (hf : Fr S w w') (hS : ∀ y ∈ S, ∀ i (hi : i < fs.length), y ≠ fs[i].pb ∧ y ∉ blkOf fs[i].q) (hD : ∀ y, D y → D' y) : Ps w' D' fs :=
  ⟨fun i hi => (h.ok i hi).fr hf (fun hm => (hS _ hm i hi).1 rfl) (fun y hy hm => (hS y hm i hi).2 hy) hD, h.ap⟩

theorem Ps.set {w w' : World} {D D' : Nat → Prop} {fs : List PE} {S : List Nat} (h : Ps w D fs) {i : Nat} (hi : i < fs.length) {f : PE} (hn : f.pid = fs[i].pid) (hb : f.pb = fs[i].pb) (hf : Fr S w w')
    (hS : ∀ y ∈ S, y = fs[i].pb ∨ y ∈ blkOf fs[i].q ∨ ∀ j (hj : j < fs.length), y ≠ fs[j].pb ∧ y ∉ blkOf fs[j].q) (hD : ∀ y, D y → D' y) (ok : PeOk w' D' f) (hq : ∀ y ∈ blkOf f.q, y ∈ blkOf fs[i].q ∨ w.heap.size ≤ y) : Ps w' D' (fs.set i f) := by
  have key : ∀ j (hj : j < fs.length), j ≠ i → ∀ y ∈ S, y ≠ fs[j].pb ∧ y ∉ blkOf fs[j].q := by
    intro j hj hji y hy
    have a := h.ap i j hi hj (fun e => hji e.symm)
    rcases hS y hy with hh | hh | hh
    · subst hh; exact ⟨a.1, (h.ok i hi).apart (h.ok j hj)⟩
    · exact ⟨fun e => (h.ok j hj).apart (h.ok i hi) (e ▸ hh), a.2.2 y hh⟩
    · exact hh j hj
  have apf : ∀ j (hj : j < fs.length), j ≠ i → f.pb ≠ fs[j].pb ∧ f.pid ≠ fs[j].pid ∧ ∀ y ∈ blkOf f.q, y ∉ blkOf fs[j].q := by
    intro j hj hji
    have a := h.ap i j hi hj (fun e => hji e.symm)
    refine ⟨hb ▸ a.1, hn ▸ a.2.1, fun y hy hm => ?_⟩
    rcases hq y hy with hh | hh
    · exact a.2.2 y hh hm
    · have := (h.ok j hj).own.lt y hm; omega
  refine ⟨fun j hj => ?_, fun j k hj hk hjk => ?_⟩
  · rw [List.length_set] at hj
    rw [List.getElem_set]
    split
    · exact ok
    · rename_i hne
      exact (h.ok j hj).fr hf (fun hm => (key j hj (fun e => hne e.symm) _ hm).1 rfl) (fun y hy hm => (key j hj (fun e => hne e.symm) y hm).2 hy) hD
  · rw [List.length_set] at hj hk
    rw [List.getElem_set, List.getElem_set]
    split
    · rename_i e1
      split
      · rename_i e2; omega
      · rename_i e2; exact apf k hk (fun e => e2 e.symm)
    · rename_i e1
      split
      · rename_i e2
        obtain ⟨a, b, c⟩ := apf j hj (fun e => e1 e.symm)
        exact ⟨a.symm, b.symm, fun y hy hm => c y hm hy⟩
      · exact h.ap j k hj hk hjk

theorem Ps.push {w w' : World} {D D' : Nat → Prop} {fs : List PE} {S : List Nat} (h : Ps w D fs) {f : PE} (hn : ∀ i (hi : i < fs.length), fs[i].pid ≠ f.pid) (hf : Fr S w w')
    (hS : ∀ y ∈ S, ∀ j (hj : j < fs.length), y ≠ fs[j].pb ∧ y ∉ blkOf fs[j].q) (hD : ∀ y, D y → D' y) (ok : PeOk w' D' f) (hb : w.heap.size ≤ f.pb) (hq : ∀ y ∈ blkOf f.q, w.heap.size ≤ y) : Ps w' D' (fs ++ [f]) := by
  have h1 := h.fr hf hS hD
  have apf : ∀ j (hj : j < fs.length), f.pb ≠ fs[j].pb ∧ f.pid ≠ fs[j].pid ∧ ∀ y ∈ blkOf f.q, y ∉ blkOf fs[j].q := by
    intro j hj
    have l1 := (h.ok j hj).blk.lt
    exact ⟨by omega, (hn j hj).symm, fun y hy hm => by have := (h.ok j hj).own.lt y hm; have := hq y hy; omega⟩
  refine ⟨fun j hj => ?_, fun j k hj hk hjk => ?_⟩
  · rw [List.getElem_append]
    split
    · exact h1.ok j _
    · rename_i hlt
      have : j - fs.length = 0 := by simp at hj; omega
      simp only [this, List.getElem_cons_zero]; exact ok
  · rw [List.getElem_append, List.getElem_append]
    simp only [List.length_append, List.length_cons, List.length_nil] at hj hk
    split
    · split
      · exact h.ap j k _ _ hjk
      · rename_i e1 e2
        have : k - fs.length = 0 := by omega
        simp only [this, List.getElem_cons_zero]
        obtain ⟨a, b, c⟩ := apf j e1
        exact ⟨a.symm, b.symm, fun y hy hm => c y hm hy⟩
    · split
      · rename_i e1 e2
        have : j - fs.length = 0 := by omega
        simp only [this, List.getElem_cons_zero]
        exact apf k e2
      · omega

theorem Ps.erase {w : World} {D : Nat → Prop} {fs : List PE} (h : Ps w D fs) (i : Nat) : Ps w D (fs.eraseIdx i) := by
  have key : ∀ j (hj : j < (fs.eraseIdx i).length), ∃ k, ∃ hk : k < fs.length, (fs.eraseIdx i)[j] = fs[k] ∧ k = (if j < i then j else j + 1) := by
    intro j hj
    have hl := hj
    rw [List.length_eraseIdx] at hl
    by_cases h1 : j < i
    · exact ⟨j, by split at hl <;> omega, by rw [List.getElem_eraseIdx, dif_pos h1], by rw [if_pos h1]⟩
    · exact ⟨j + 1, by split at hl <;> omega, by rw [List.getElem_eraseIdx, dif_neg h1], by rw [if_neg h1]⟩
  refine ⟨fun j hj => ?_, fun j k hj hk hjk => ?_⟩
  · obtain ⟨k, hk, e, _⟩ := key j hj
    rw [e]; exact h.ok k hk
  · obtain ⟨j', hj', e, ej⟩ := key j hj
    obtain ⟨k', hk', e', ek⟩ := key k hk
    rw [e, e']
    exact h.ap j' k' hj' hk' (by rw [ej, ek]; split <;> split <;> omega)


/-! ## the table -/
structure Tb (w : World) (D : Nat → Prop) (b : Nat) (A : List (Int × TV)) : Prop where
  ex : ∃ r fs, A = fs.map PE.ab ∧ Blk w b [.map (some r)] 71 ∧ MapAt (Value.int .i64) w r (keysOf fs) ∧ Ps w D fs ∧ D r
  db : D b
  lt : ∀ y, D y → y < w.heap.size

theorem keysOf_get (fs : List PE) (n : Int) : (∃ i, ∃ h : i < fs.length, fs[i].pid = n ∧ kget (keysOf fs) n = some (.pointer (some ⟨fs[i].pb, 0, none⟩)) ∧ kget (fs.map PE.ab) n = some fs[i].pv ∧
      (∀ g, kups (fs.map PE.ab) n g = (fs.map PE.ab).set i (n, g (some fs[i].pv)))) ∨
    (kget (keysOf fs) n = none ∧ kget (fs.map PE.ab) n = none ∧ (∀ i (h : i < fs.length), fs[i].pid ≠ n) ∧ (∀ g, kups (fs.map PE.ab) n g = fs.map PE.ab ++ [(n, g none)])) := by
  induction fs with
  | nil => exact .inr ⟨rfl, rfl, fun i h => absurd h (by simp), fun g => rfl⟩
  | cons f fs ih =>
    have ek : keysOf (f :: fs) = (f.pid, .pointer (some ⟨f.pb, 0, none⟩)) :: keysOf fs := rfl
    have ea : (f :: fs).map PE.ab = (f.pid, f.pv) :: fs.map PE.ab := rfl
    rw [ek, ea, kget_cons, kget_cons]
    by_cases hn : n = f.pid
    · exact .inl ⟨0, by simp, hn.symm, by simp [hn], by simp [hn], fun g => by simp [kups, hn]⟩
    · simp only [hn, if_false]
      rcases ih with ⟨i, hi, h1, h2, h3, h4⟩ | ⟨h1, h2, h3, h4⟩
      · exact .inl ⟨i + 1, by simp; omega, by simpa using h1, by simpa using h2, by simpa using h3, fun g => by simp [kups, hn, h4]⟩
      · refine .inr ⟨h1, h2, fun i hi => ?_, fun g => by simp [kups, hn, h4]⟩
        cases i with
        | zero => exact fun e => hn e.symm
        | succ i => exact h3 i (by simpa using hi)


theorem Tb.fr {w w' : World} {D : Nat → Prop} {b : Nat} {A : List (Int × TV)} {S : List Nat} (h : Tb w D b A) (hf : Fr S w w') (hS : ∀ y ∈ S, y < w.heap.size → ¬ D y) : Tb w' D b A := by
  obtain ⟨r, fs, h1, h2, h4, h5, h6⟩ := h.ex
  have hf' := fr_old hf
  have hS' : ∀ y ∈ S.filter (· < w.heap.size), ¬ D y := by intro y hy; simp at hy; exact hS y hy.1 hy.2
  refine ⟨⟨r, fs, h1, h2.fr hf' (fun hm => hS' _ hm h.db), h4.fr hf' (fun hm => hS' _ hm h6), h5.fr hf' (fun y hy i hi => ⟨fun e => hS' y hy (e ▸ (h5.ok i hi).reg.1), fun hm => hS' y hy ((h5.ok i hi).reg.2 y hm)⟩) (fun _ => id), h6⟩, h.db, fun y hy => ?_⟩
  have := h.lt y hy; have := hf.size; omega

section
variable {w : World} {D : Nat → Prop} {b : Nat} {A : List (Int × TV)}

theorem new10 (w : World) : ∃ w' D', callF Try.prog 10 #[] w = some (.pointer (some ⟨w.heap.size + 1, 0, none⟩), w') ∧ Tb w' D' (w.heap.size + 1) [] ∧ Fr [] w w' ∧ ∀ y, D' y → w.heap.size ≤ y := by
  have f1 : Fr [] w (w.alloc (.map #[] 0)) := Fr.alloc _
  have m1 := MapAt.new (Value.int .i64) w
  have z1 : (w.alloc (.map #[] 0)).heap.size = w.heap.size + 1 := Array.size_push _
  have e0 : callF Try.prog 10 #[] w = some (.pointer (some ⟨(w.alloc (.map #[] 0)).heap.size, 0, none⟩), (w.alloc (.map #[] 0)).alloc (.cells #[.map (some w.heap.size)] 71)) := g10_call rfl
  generalize w.alloc (.map #[] 0) = w1 at *
  have f2 : Fr [] w1 (w1.alloc (.cells #[.map (some w.heap.size)] 71)) := Fr.alloc _
  have b2 := Blk.new w1 [.map (some w.heap.size)] 71
  have z2 : (w1.alloc (.cells #[.map (some w.heap.size)] 71)).heap.size = w1.heap.size + 1 := Array.size_push _
  rw [z1] at e0
  refine ⟨_, fun y => y = w.heap.size ∨ y = w.heap.size + 1, e0, ⟨⟨w.heap.size, [], rfl, ?_, m1.fr f2 (by simp), ⟨fun i h => absurd h (by simp), fun i j h => absurd h (by simp)⟩, .inl rfl⟩, .inr rfl, ?_⟩, (Fr.mono (Fr.app f1 f2) (by have z0_ := Fr.size f1; have z1_ := Fr.size f2; intro y_ hy_ hl_; grind [blkOf])), ?_⟩
  · rw [z1] at b2; exact b2
  · intro y hy
    show y < (w1.alloc (.cells #[.map (some w.heap.size)] 71)).heap.size
    omega
  · intro y hy; omega

theorem look_nm {r : Nat} {fs : List PE} (h : MapAt (Value.int .i64) w r (keysOf fs)) (n : Int) : mLook (.int .i64) w (some r) (.int .i64 n) = some (kget (keysOf fs) n) := h.look (keyOk_int .i64) n
end
end Go.Proofs.Ytlcojbodcbjkaaa
