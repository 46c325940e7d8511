/-
  WalDiskJ: lemmas on what Go functions of this seat come to (for whatever arguments, as each says). No condition but those that stand in each lemma.
-/
import Derived.Test.YtnflklkjjjlpaaaWalFrameCrcX
import Derived.Test.YtnflklkjjjlpaaaLb8
import Derived.Test.YtnflklkjjjlpaaaWalFrameM
import Derived.Test.YtnflklkjjjlpaaaWalF0
import Derived.Lib.SlBytesConst
import Derived.Laws.IdiomStrings
import Derived.Laws.BytesArg
namespace Go.Proofs.Ytnflklkjjjlpaaa
open Go Go.Ev
set_option maxRecDepth 100000
set_option linter.unusedVariables false
set_option linter.unusedSimpArgs false

theorem t28 : TSl Try.prog 31 5 1 1 := tsl_of Try.underlying31 (by kernel_rfl)
theorem oc8 {zs : List Int} : ∀ y ∈ zs.map (Value.int .u8), y.oneCell' = true := by simp

/-- a file in memory -/
structure FE where
  name : ByteArray
  fb : Nat
  q : Option Addr × Nat × Nat
  data : List Int
  syn : Nat

/-- what a file is: its bytes, how many of them last -/
abbrev FV := List Int × Nat
def FE.ab (f : FE) : ByteArray × FV := (f.name, f.data, f.syn)
def keysOf (fs : List FE) : List (ByteArray × Value) := fs.map fun f => (f.name, .pointer (some ⟨f.fb, 0, none⟩))
def used (A : List (ByteArray × FV)) : Nat := (A.map fun p => p.2.1.length).sum

structure FeOk (w : World) (D : Nat → Prop) (f : FE) : Prop where
  blk : Blk w f.fb [.slice f.q.1 f.q.2.1 f.q.2.2, .int .i64 (f.syn : Int)] 76
  own : Own w 5 1 f.q (f.data.map (Value.int .u8))
  zs : Zs f.data
  syn : f.syn ≤ f.data.length
  reg : D f.fb ∧ ∀ y ∈ blkOf f.q, D y

theorem FeOk.fr {w w' : World} {D D' : Nat → Prop} {f : FE} {S : List Nat} (h : FeOk w D f) (hf : Fr S w w') (h1 : f.fb ∉ S) (h2 : ∀ y ∈ blkOf f.q, y ∉ S) (hD : ∀ y, D y → D' y) : FeOk w' D' f :=
  ⟨h.blk.fr hf h1, h.own.fr hf h2, h.zs, h.syn, hD _ h.reg.1, fun y hy => hD y (h.reg.2 y hy)⟩

structure Fs (w : World) (D : Nat → Prop) (fs : List FE) : Prop where
  ok : ∀ i (h : i < fs.length), FeOk w D fs[i]
  ap : ∀ i j (hi : i < fs.length) (hj : j < fs.length), i ≠ j → fs[i].fb ≠ fs[j].fb ∧ fs[i].name ≠ fs[j].name ∧ ∀ y ∈ blkOf fs[i].q, y ∉ blkOf fs[j].q

theorem FeOk.apart {w : World} {D : Nat → Prop} {f g : FE} (h : FeOk w D f) (h' : FeOk w D g) : f.fb ∉ blkOf g.q := h.blk.notin h'.own (by decide)

theorem Fs.fr {w w' : World} {D D' : Nat → Prop} {fs : List FE} {S : List Nat} (h : Fs w D fs) (hf : Fr S w w') (hS : ∀ y ∈ S, ∀ i (hi : i < fs.length), y ≠ fs[i].fb ∧ y ∉ blkOf fs[i].q) (hD : ∀ y, D y → D' y) : Fs w' D' fs :=
  ⟨fun i hi => (h.ok i hi).fr hf (fun hm => (hS _ hm i hi).1 rfl) (fun y hy hm => (hS y hm i hi).2 hy) hD, h.ap⟩

theorem Fs.set {w w' : World} {D D' : Nat → Prop} {fs : List FE} {S : List Nat} (h : Fs w D fs) {i : Nat} (hi : i < fs.length) {f : FE} (hn : f.name = fs[i].name) (hb : f.fb = fs[i].fb) (hf : Fr S w w')
    (hS : ∀ y ∈ S, y = fs[i].fb ∨ y ∈ blkOf fs[i].q ∨ ∀ j (hj : j < fs.length), y ≠ fs[j].fb ∧ y ∉ blkOf fs[j].q) (hD : ∀ y, D y → D' y) (ok : FeOk w' D' f) (hq : ∀ y ∈ blkOf f.q, y ∈ blkOf fs[i].q ∨ w.heap.size ≤ y) : Fs w' D' (fs.set i f) := by
  have key : ∀ j (hj : j < fs.length), j ≠ i → ∀ y ∈ S, y ≠ fs[j].fb ∧ y ∉ blkOf fs[j].q := by
    intro j hj hji y hy
    have a := h.ap i j hi hj (fun e => hji e.symm)
    rcases hS y hy with hh | hh | hh
    · subst hh; exact ⟨a.1, (h.ok i hi).apart (h.ok j hj)⟩
    · exact ⟨fun e => (h.ok j hj).apart (h.ok i hi) (e ▸ hh), a.2.2 y hh⟩
    · exact hh j hj
  have apf : ∀ j (hj : j < fs.length), j ≠ i → f.fb ≠ fs[j].fb ∧ f.name ≠ fs[j].name ∧ ∀ y ∈ blkOf f.q, y ∉ blkOf fs[j].q := by
    intro j hj hji
    have a := h.ap i j hi hj (fun e => hji e.symm)
    refine ⟨hb ▸ a.1, hn ▸ a.2.1, fun y hy hm => ?_⟩
    rcases hq y hy with hh | hh
    · exact a.2.2 y hh hm
    · have := (h.ok j hj).own.lt y hm; omega
  refine ⟨fun j hj => ?_, fun j k hj hk hjk => ?_⟩
  · rw [List.length_set] at hj
    rw [List.getElem_set]
    split
    · exact ok
    · rename_i hne
      exact (h.ok j hj).fr hf (fun hm => (key j hj (fun e => hne e.symm) _ hm).1 rfl) (fun y hy hm => (key j hj (fun e => hne e.symm) y hm).2 hy) hD
  · rw [List.length_set] at hj hk
    rw [List.getElem_set, List.getElem_set]
    split
    · rename_i e1
      split
      · rename_i e2; omega
      · rename_i e2; exact apf k hk (fun e => e2 e.symm)
    · rename_i e1
      split
      · rename_i e2
        obtain ⟨a, b, c⟩ := apf j hj (fun e => e1 e.symm)
        exact ⟨a.symm, b.symm, fun y hy hm => c y hm hy⟩
      · exact h.ap j k hj hk hjk

theorem Fs.push {w w' : World} {D D' : Nat → Prop} {fs : List FE} {S : List Nat} (h : Fs w D fs) {f : FE} (hn : ∀ i (hi : i < fs.length), fs[i].name ≠ f.name) (hf : Fr S w w')
    (hS : ∀ y ∈ S, ∀ j (hj : j < fs.length), y ≠ fs[j].fb ∧ y ∉ blkOf fs[j].q) (hD : ∀ y, D y → D' y) (ok : FeOk w' D' f) (hb : w.heap.size ≤ f.fb) (hq : ∀ y ∈ blkOf f.q, w.heap.size ≤ y) : Fs w' D' (fs ++ [f]) := by
  have h1 := h.fr hf hS hD
  have apf : ∀ j (hj : j < fs.length), f.fb ≠ fs[j].fb ∧ f.name ≠ fs[j].name ∧ ∀ y ∈ blkOf f.q, y ∉ blkOf fs[j].q := by
    intro j hj
    have l1 := (h.ok j hj).blk.lt
    exact ⟨by omega, (hn j hj).symm, fun y hy hm => by have := (h.ok j hj).own.lt y hm; have := hq y hy; omega⟩
  refine ⟨fun j hj => ?_, fun j k hj hk hjk => ?_⟩
  · rw [List.getElem_append]
    split
    · exact h1.ok j _
    · rename_i hlt
      have : j - fs.length = 0 := by simp at hj; omega
      simp only [this, List.getElem_cons_zero]; exact ok
  · rw [List.getElem_append, List.getElem_append]
    simp only [List.length_append, List.length_cons, List.length_nil] at hj hk
    split
    · split
      · exact h.ap j k _ _ hjk
      · rename_i e1 e2
        have : k - fs.length = 0 := by omega
        simp only [this, List.getElem_cons_zero]
        obtain ⟨a, b, c⟩ := apf j e1
        exact ⟨a.symm, b.symm, fun y hy hm => c y hm hy⟩
    · split
      · rename_i e1 e2
        have : j - fs.length = 0 := by omega
        simp only [this, List.getElem_cons_zero]
        exact apf k e2
      · omega

theorem Fs.erase {w : World} {D : Nat → Prop} {fs : List FE} (h : Fs w D fs) (i : Nat) : Fs w D (fs.eraseIdx i) := by
  have key : ∀ j (hj : j < (fs.eraseIdx i).length), ∃ k, ∃ hk : k < fs.length, (fs.eraseIdx i)[j] = fs[k] ∧ k = (if j < i then j else j + 1) := by
    intro j hj
    have hl := hj
    rw [List.length_eraseIdx] at hl
    by_cases h1 : j < i
    · exact ⟨j, by split at hl <;> omega, by rw [List.getElem_eraseIdx, dif_pos h1], by rw [if_pos h1]⟩
    · exact ⟨j + 1, by split at hl <;> omega, by rw [List.getElem_eraseIdx, dif_neg h1], by rw [if_neg h1]⟩
  refine ⟨fun j hj => ?_, fun j k hj hk hjk => ?_⟩
  · obtain ⟨k, hk, e, _⟩ := key j hj
    rw [e]; exact h.ok k hk
  · obtain ⟨j', hj', e, ej⟩ := key j hj
    obtain ⟨k', hk', e', ek⟩ := key k hk
    rw [e, e']
    exact h.ap j' k' hj' hk' (by rw [ej, ek]; split <;> split <;> omega)

/-! ## the disk -/
structure Dk (w : World) (D : Nat → Prop) (b : Nat) (A : List (ByteArray × FV)) (fuse : Int) (dead : Bool) : Prop where
  ex : ∃ r fs, A = fs.map FE.ab ∧ Blk w b [.map (some r), .int .i64 fuse, .bool dead, .int .i64 ((used A : Nat) : Int)] 60 ∧ MapAt Value.string w r (keysOf fs) ∧ Fs w D fs ∧ D r
  db : D b
  lt : ∀ y, D y → y < w.heap.size
  fuse : -1 ≤ fuse ∧ fuse ≤ 9223372036854775807
  used : used A ≤ 4194304
  len : A.length ≤ 4096

theorem keysOf_get (fs : List FE) (n : ByteArray) : (∃ i, ∃ h : i < fs.length, fs[i].name = n ∧ kget (keysOf fs) n = some (.pointer (some ⟨fs[i].fb, 0, none⟩)) ∧ kget (fs.map FE.ab) n = some (fs[i].data, fs[i].syn) ∧
      (∀ g, kups (fs.map FE.ab) n g = (fs.map FE.ab).set i (n, g (some (fs[i].data, fs[i].syn)))) ∧ kdel (keysOf fs) n = keysOf (fs.eraseIdx i) ∧ kdel (fs.map FE.ab) n = (fs.eraseIdx i).map FE.ab) ∨
    (kget (keysOf fs) n = none ∧ kget (fs.map FE.ab) n = none ∧ (∀ i (h : i < fs.length), fs[i].name ≠ n) ∧ (∀ g, kups (fs.map FE.ab) n g = fs.map FE.ab ++ [(n, g none)])) := by
  induction fs with
  | nil => exact .inr ⟨rfl, rfl, fun i h => absurd h (by simp), fun g => rfl⟩
  | cons f fs ih =>
    have ek : keysOf (f :: fs) = (f.name, .pointer (some ⟨f.fb, 0, none⟩)) :: keysOf fs := rfl
    have ea : (f :: fs).map FE.ab = (f.name, f.data, f.syn) :: fs.map FE.ab := rfl
    rw [ek, ea, kget_cons, kget_cons]
    by_cases hn : n = f.name
    · exact .inl ⟨0, by simp, hn.symm, by simp [hn], by simp [hn], fun g => by simp [kups, hn], by simp [kdel, hn], by simp [kdel, hn]⟩
    · simp only [hn, if_false]
      rcases ih with ⟨i, hi, h1, h2, h3, h4, h5, h6⟩ | ⟨h1, h2, h3, h4⟩
      · refine .inl ⟨i + 1, by simp; omega, by simpa using h1, by simpa using h2, by simpa using h3, fun g => by simp [kups, hn, h4], by rw [kdel, if_neg hn, h5]; rfl, by rw [kdel, if_neg hn, h6]; rfl⟩
      · refine .inr ⟨h1, h2, fun i hi => ?_, fun g => by simp [kups, hn, h4]⟩
        cases i with
        | zero => exact fun e => hn e.symm
        | succ i => exact h3 i (by simpa using hi)

theorem Dk.fr {w w' : World} {D : Nat → Prop} {b : Nat} {A : List (ByteArray × FV)} {fuse : Int} {dead : Bool} {S : List Nat} (h : Dk w D b A fuse dead) (hf : Fr S w w') (hS : ∀ y ∈ S, y < w.heap.size → ¬ D y) : Dk w' D b A fuse dead := by
  obtain ⟨r, fs, h1, h2, h3, h4, h5⟩ := h.ex
  have hf' := fr_old hf
  have hS' : ∀ y ∈ S.filter (· < w.heap.size), ¬ D y := by intro y hy; simp at hy; exact hS y hy.1 hy.2
  refine ⟨⟨r, fs, h1, h2.fr hf' (fun hm => hS' _ hm h.db), h3.fr hf' (fun hm => hS' _ hm h5), h4.fr hf' (fun y hy i hi => ⟨fun e => hS' y hy (e ▸ (h4.ok i hi).reg.1), fun hm => hS' y hy ((h4.ok i hi).reg.2 y hm)⟩) (fun _ => id), h5⟩, h.db, fun y hy => ?_, h.fuse, h.used, h.len⟩
  have := h.lt y hy; have := hf.size; omega

theorem used_set {fs : List FE} {i : Nat} (hi : i < fs.length) (d : List Int) (s : Nat) (n : ByteArray) : used ((fs.map FE.ab).set i (n, d, s)) + fs[i].data.length = used (fs.map FE.ab) + d.length := by
  induction fs generalizing i with
  | nil => simp at hi
  | cons f fs ih =>
    cases i with
    | zero => simp [used, FE.ab]; omega
    | succ i =>
      have := ih (i := i) (by simpa using hi)
      simp only [used, List.map_cons, List.set_cons_succ, List.sum_cons, List.getElem_cons_succ] at this ⊢
      omega
theorem used_append (A B : List (ByteArray × FV)) : used (A ++ B) = used A + used B := by simp [used]
theorem used_erase {fs : List FE} {i : Nat} (hi : i < fs.length) : used ((fs.eraseIdx i).map FE.ab) + fs[i].data.length = used (fs.map FE.ab) := by
  induction fs generalizing i with
  | nil => simp at hi
  | cons f fs ih =>
    cases i with
    | zero => simp [used, FE.ab]; omega
    | succ i =>
      have := ih (i := i) (by simpa using hi)
      simp only [used, List.map_cons, List.eraseIdx_cons_succ, List.sum_cons, List.getElem_cons_succ] at this ⊢
      omega
theorem used_get {fs : List FE} {i : Nat} (hi : i < fs.length) : fs[i].data.length ≤ used (fs.map FE.ab) := by have := used_erase hi; omega

section
variable {w : World} {D : Nat → Prop} {b : Nat} {A : List (ByteArray × FV)} {fuse : Int} {dead : Bool}

theorem new8 (w : World) : ∃ w' D', callF Try.prog 9 #[] w = some (.pointer (some ⟨w.heap.size + 1, 0, none⟩), w') ∧ Dk w' D' (w.heap.size + 1) [] (-1) false ∧ Fr [] w w' ∧ ∀ y, D' y → w.heap.size ≤ y := by
  have f1 : Fr [] w (w.alloc (.map #[] 0)) := Fr.alloc _
  have m1 := MapAt.new Value.string w
  have z1 : (w.alloc (.map #[] 0)).heap.size = w.heap.size + 1 := Array.size_push _
  have e0 : callF Try.prog 9 #[] w = some (.pointer (some ⟨(w.alloc (.map #[] 0)).heap.size, 0, none⟩), (w.alloc (.map #[] 0)).alloc (.cells #[.map (some w.heap.size), .int .i64 (-1), .bool false, .int .i64 0] 60)) := g9_call rfl
  generalize w.alloc (.map #[] 0) = w1 at *
  have f2 : Fr [] w1 (w1.alloc (.cells #[.map (some w.heap.size), .int .i64 (-1), .bool false, .int .i64 0] 60)) := Fr.alloc _
  have b2 := Blk.new w1 [.map (some w.heap.size), .int .i64 (-1), .bool false, .int .i64 0] 60
  have z2 : (w1.alloc (.cells #[.map (some w.heap.size), .int .i64 (-1), .bool false, .int .i64 0] 60)).heap.size = w1.heap.size + 1 := Array.size_push _
  rw [z1] at e0
  refine ⟨_, fun y => y = w.heap.size ∨ y = w.heap.size + 1, e0, ⟨⟨w.heap.size, [], rfl, ?_, m1.fr f2 (by simp), ⟨fun i h => absurd h (by simp), fun i j h => absurd h (by simp)⟩, .inl rfl⟩, .inr rfl, ?_, by decide, by decide, by decide⟩, (Fr.mono (Fr.app f1 f2) (by have z0_ := Fr.size f1; have z1_ := Fr.size f2; intro y_ hy_ hl_; grind [blkOf])), ?_⟩
  · rw [z1] at b2; exact b2
  · intro y hy
    show y < (w1.alloc (.cells #[.map (some w.heap.size), .int .i64 (-1), .bool false, .int .i64 0] 60)).heap.size
    omega
  · intro y hy; omega

theorem state25 (h : Dk w D b A fuse dead) : callF Try.prog 37 #[.pointer (some ⟨b, 0, none⟩)] w = some (.int .i64 (if dead = true then 9 else 0), w) := by
  obtain ⟨r, fs, h1, h2, h3, h4, h5⟩ := h.ex
  have c2 : w.cell? ⟨b, 2, none⟩ = some (.bool dead) := h2.cell 2
  refine g37_call ?_
  unfold g37
  cases dead
  · simp only [addr_add, Nat.zero_add, c2, Option.bind_some, asP_pointer, asB_bool, asI_int, asS_string, asSl_slice, asM_map, asTup0, asTup1, asTup2, asTup3, asTup4, asTup5, getD0, getD1, getD2, getD3, getD4, Bool.not_true, Bool.not_false, Bool.false_eq_true, Bool.true_eq_false, ↓reduceIte, decide_true, decide_false, Option.isNone_some, Option.isNone_none, Option.isSome_some, Option.isSome_none, beq_self_eq_true, bne_self_eq_false, Bool.and_true, Bool.true_and, Bool.and_false, Bool.false_and, not_true_eq_false, not_false_eq_true]
    all_goals rfl
  · simp only [addr_add, Nat.zero_add, c2, Option.bind_some, asP_pointer, asB_bool, asI_int, asS_string, asSl_slice, asM_map, asTup0, asTup1, asTup2, asTup3, asTup4, asTup5, getD0, getD1, getD2, getD3, getD4, Bool.not_true, Bool.not_false, Bool.false_eq_true, Bool.true_eq_false, ↓reduceIte, decide_true, decide_false, Option.isNone_some, Option.isNone_none, Option.isSome_some, Option.isSome_none, beq_self_eq_true, bne_self_eq_false, Bool.and_true, Bool.true_and, Bool.and_false, Bool.false_and, not_true_eq_false, not_false_eq_true]

theorem look_ptr {r : Nat} {fs : List FE} (h : MapAt Value.string w r (keysOf fs)) (n : ByteArray) : mLook .string w (some r) (.string n) = some (kget (keysOf fs) n) := h.look keyOk_str n

/-- a file's place in memory -/
theorem find26 (h : Dk w D b A fuse false) (n : ByteArray) : ∃ r fs, A = fs.map FE.ab ∧ Blk w b [.map (some r), .int .i64 fuse, .bool false, .int .i64 ((used A : Nat) : Int)] 60 ∧ MapAt Value.string w r (keysOf fs) ∧ Fs w D fs ∧ D r ∧
    ((∃ i, ∃ hi : i < fs.length, fs[i].name = n ∧ callF Try.prog 36 #[.pointer (some ⟨b, 0, none⟩), .string n] w = some (.tuple #[.pointer (some ⟨fs[i].fb, 0, none⟩), .int .i64 0], w) ∧ kget A n = some (fs[i].data, fs[i].syn) ∧
      (∀ g, kups A n g = (fs.map FE.ab).set i (n, g (some (fs[i].data, fs[i].syn)))) ∧ kdel (keysOf fs) n = keysOf (fs.eraseIdx i) ∧ kdel A n = (fs.eraseIdx i).map FE.ab) ∨
     (kget A n = none ∧ callF Try.prog 36 #[.pointer (some ⟨b, 0, none⟩), .string n] w = some (.tuple #[.pointer none, .int .i64 4], w))) := by
  have e25 := state25 h
  obtain ⟨r, fs, h1, h2, h3, h4, h5⟩ := h.ex
  have c0 : w.cell? ⟨b, 0, none⟩ = some (.map (some r)) := h2.cell 0
  have h00 : ((0 : Int) != 0) = false := by decide
  subst h1
  refine ⟨r, fs, rfl, h2, h3, h4, h5, ?_⟩
  have lk := look_ptr h3 n
  rcases keysOf_get fs n with ⟨i, hi, k1, k2, k3, k4, k5, k6⟩ | ⟨k1, k2, k3, k4⟩
  · refine .inl ⟨i, hi, k1, g36_call ?_, k3, k4, k5, k6⟩
    rw [k2] at lk
    unfold g36
    simp only [e25, h00, c0, lk, Option.getD_some, Option.bind_some, asP_pointer, asB_bool, asI_int, asS_string, asSl_slice, asM_map, asTup0, asTup1, asTup2, asTup3, asTup4, asTup5, getD0, getD1, getD2, getD3, getD4, Bool.not_true, Bool.not_false, Bool.false_eq_true, Bool.true_eq_false, ↓reduceIte, decide_true, decide_false, Option.isNone_some, Option.isNone_none, Option.isSome_some, Option.isSome_none, beq_self_eq_true, bne_self_eq_false, Bool.and_true, Bool.true_and, Bool.and_false, Bool.false_and, not_true_eq_false, not_false_eq_true]
  · refine .inr ⟨k2, g36_call ?_⟩
    rw [k1] at lk
    unfold g36
    simp only [e25, h00, c0, lk, Option.getD_none, Option.bind_some, asP_pointer, asB_bool, asI_int, asS_string, asSl_slice, asM_map, asTup0, asTup1, asTup2, asTup3, asTup4, asTup5, getD0, getD1, getD2, getD3, getD4, Bool.not_true, Bool.not_false, Bool.false_eq_true, Bool.true_eq_false, ↓reduceIte, decide_true, decide_false, Option.isNone_some, Option.isNone_none, Option.isSome_some, Option.isSome_none, beq_self_eq_true, bne_self_eq_false, Bool.and_true, Bool.true_and, Bool.and_false, Bool.false_and, not_true_eq_false, not_false_eq_true]

theorem find26_dead (h : Dk w D b A fuse true) (n : ByteArray) : callF Try.prog 36 #[.pointer (some ⟨b, 0, none⟩), .string n] w = some (.tuple #[.pointer none, .int .i64 9], w) := by
  have e25 := state25 h
  have h90 : ((9 : Int) != 0) = true := by decide
  refine g36_call ?_
  unfold g36
  simp only [e25, h90, Option.bind_some, asP_pointer, asB_bool, asI_int, asS_string, asSl_slice, asM_map, asTup0, asTup1, asTup2, asTup3, asTup4, asTup5, getD0, getD1, getD2, getD3, getD4, Bool.not_true, Bool.not_false, Bool.false_eq_true, Bool.true_eq_false, ↓reduceIte, decide_true, decide_false, Option.isNone_some, Option.isNone_none, Option.isSome_some, Option.isSome_none, beq_self_eq_true, bne_self_eq_false, Bool.and_true, Bool.true_and, Bool.and_false, Bool.false_and, not_true_eq_false, not_false_eq_true]
end
end Go.Proofs.Ytnflklkjjjlpaaa

namespace Go.Proofs.Ytnflklkjjjlpaaa
open Go Go.Ev
set_option maxRecDepth 100000
set_option linter.unusedVariables false
set_option linter.unusedSimpArgs false

theorem zs_append {a c : List Int} (h : Zs a) (h' : Zs c) : Zs (a ++ c) := by
  intro z hz
  rw [List.mem_append] at hz
  exact hz.elim (h z) (h' z)

section
variable {w : World} {D : Nat → Prop} {b : Nat} {A : List (ByteArray × FV)} {fuse : Int} {dead : Bool}

/-- the first j of a slice of bytes -/
theorem slc8 {u : Option Addr × Nat × Nat} {p : List Int} (hu : Sl8 w u p) (hc : u.2.1 ≤ u.2.2) {j : Nat} (hj : j ≤ p.length) :
    ∃ q, slc u.1 u.2.1 u.2.2 1 none (some (j : Int)) none = some q ∧ SlC w 1 q ((p.take j).map (Value.int .u8)) ∧ q.2.1 = j ∧ ∀ x ∈ blkOf q, x ∈ blkOf u := by
  have hl := hu.1
  have hcut := hu.slC.cut (i := 0) (j := j) (Nat.zero_le _) (by omega) hc
  have e : List.take ((j - 0) * 1) (List.drop (0 * 1) (p.map (Value.int .u8))) = (p.take j).map (Value.int .u8) := by simp
  rw [e] at hcut
  exact ⟨_, slc_to (by omega), hcut, by simp, fun x hx => blkOf_cut x hx⟩

theorem tail30 {r : Nat} {fs : List FE} {U : Nat} (hb : Blk w b [.map (some r), .int .i64 fuse, .bool false, .int .i64 (U : Int)] 60) (hU : U = used (fs.map FE.ab)) (hm : MapAt Value.string w r (keysOf fs)) (hfs : Fs w D fs) (hDr : D r) (hDb : D b)
    (hlt : ∀ y, D y → y < w.heap.size) (hfuse : -1 ≤ fuse ∧ fuse ≤ 9223372036854775807) (hlen : fs.length ≤ 4096) {i : Nat} (hi : i < fs.length) {u : Option Addr × Nat × Nat} {p : List Int} (hp : Sl8 w u p) (hz : Zs p) (hc : u.2.1 ≤ u.2.2)
    (hd : 0 < p.length → ∀ y ∈ blkOf u, ¬ D y) {n : Nat} (hn : n ≤ p.length) (hroom : U + p.length ≤ 4194304) :
    ∃ w' D', g19_j30 (some ⟨fs[i].fb, 0, none⟩) u (some ⟨b, 0, none⟩) (n : Int) w = some (.int .i64 (if n < p.length then 9 else 0), w') ∧
      Dk w' D' b ((fs.map FE.ab).set i (fs[i].name, fs[i].data ++ p.take n, fs[i].syn)) fuse (decide (n < p.length)) ∧ Chg D w w' D' := by
  have ok := hfs.ok i hi
  have hul := hp.1
  have hug := used_get hi
  have hol := ok.own.len
  simp only [List.length_map, Nat.mul_one] at hol
  have f0 : Fr [] w w.drew := Fr.drew _ _
  have c0 : w.drew.cell? ⟨fs[i].fb, 0, none⟩ = some (.slice fs[i].q.1 fs[i].q.2.1 fs[i].q.2.2) := ok.blk.drew.cell 0
  obtain ⟨q, eq, sq, hql, bq⟩ := slc8 hp hc hn
  have sq' := sq.fr f0 (by simp)
  have hml : maxLen = 9223372036854775807 := by decide
  obtain ⟨v', w1, e1, o1, f1, hv1, hl1⟩ := app_sl t28 ok.own.drew sq' oc8 (by omega) (by omega) 31 #[false, false]
  rw [← List.map_append] at o1
  have fa : Fr (blkOf fs[i].q) w w1 := (Fr.mono (Fr.app f0 f1) (by have z0_ := Fr.size f0; have z1_ := Fr.size f1; intro y_ hy_ hl_; grind [blkOf]))
  have k1 := ok.blk.fr fa (ok.apart ok)
  have nb : b ≠ fs[i].fb := hb.ne ok.blk (by decide)
  have nbq : b ∉ blkOf fs[i].q := hb.notin ok.own (by decide)
  have hb1 := hb.fr fa nbq
  have t1 : st1 w1 ⟨fs[i].fb, 0, none⟩ (.slice v'.1 v'.2.1 v'.2.2) = some (w1.setCell ⟨fs[i].fb, 0, none⟩ (.slice v'.1 v'.2.1 v'.2.2)) := k1.st1 (by simp) rfl
  have f2 : Fr [fs[i].fb] w1 (w1.setCell ⟨fs[i].fb, 0, none⟩ (.slice v'.1 v'.2.1 v'.2.2)) := Fr.setCell
  have k2 := k1.set 0 (.slice v'.1 v'.2.1 v'.2.2)
  have hb2 := hb1.fr f2 (by simpa using nb)
  have hv1' : ∀ y ∈ blkOf v', y ∈ blkOf fs[i].q ∨ w.heap.size ≤ y := hv1
  have nfv : fs[i].fb ∉ blkOf v' := k1.notin o1 (by decide)
  have o2 := o1.fr f2 (by intro y hy hm; simp at hm; subst hm; exact nfv hy)
  generalize w1.setCell ⟨fs[i].fb, 0, none⟩ (.slice v'.1 v'.2.1 v'.2.2) = w2 at t1 f2 k2 hb2 o2
  simp only [List.set_cons_zero] at k2
  have c3 : w2.cell? ⟨b, 3, none⟩ = some (.int .i64 (U : Int)) := hb2.cell 3
  have hw : IntKind.i64.wrap ((U : Int) + (n : Int)) = ((U + n : Nat) : Int) := by rw [wrap_i64 (by omega) (by omega)]; omega
  have t3 : st1 w2 ⟨b, 3, none⟩ (.int .i64 ((U + n : Nat) : Int)) = some (w2.setCell ⟨b, 3, none⟩ (.int .i64 ((U + n : Nat) : Int))) := hb2.st1 (by simp) rfl
  have f3 : Fr [b] w2 (w2.setCell ⟨b, 3, none⟩ (.int .i64 ((U + n : Nat) : Int))) := Fr.setCell
  have hb3 := hb2.set 3 (.int .i64 ((U + n : Nat) : Int))
  have nbv : b ∉ blkOf v' := hb2.notin o2 (by decide)
  have o3 := o2.fr f3 (by intro y hy hm; simp at hm; subst hm; exact nbv hy)
  have k3 := k2.fr f3 (by simpa using nb.symm)
  generalize w2.setCell ⟨b, 3, none⟩ (.int .i64 ((U + n : Nat) : Int)) = w3 at t3 f3 hb3 o3 k3
  simp only [List.set_cons_succ, List.set_cons_zero] at hb3
  have fin : ∀ (w4 : World) (dd : Bool), Fr [b] w3 w4 → Blk w4 b [.map (some r), .int .i64 fuse, .bool dd, .int .i64 ((U + n : Nat) : Int)] 60 →
      Dk w4 (fun y => D y ∨ w.heap.size ≤ y ∧ y < w4.heap.size) b ((fs.map FE.ab).set i (fs[i].name, fs[i].data ++ p.take n, fs[i].syn)) fuse dd ∧ Chg D w w4 (fun y => D y ∨ w.heap.size ≤ y ∧ y < w4.heap.size) := by
    intro w4 dd f4 hb4
    have z_fa := Fr.size fa; have z_f2 := Fr.size f2; have z_f3 := Fr.size f3; have z_f4 := Fr.size f4
    have F : Fr (b :: fs[i].fb :: blkOf fs[i].q) w w4 := (Fr.mono (Fr.app (Fr.app (Fr.app fa f2) f3) f4) (by have z0_ := Fr.size fa; have z1_ := Fr.size f2; have z2_ := Fr.size f3; have z3_ := Fr.size f4; intro y_ hy_ hl_; grind [blkOf]))
    have o4 := o3.fr f4 (by intro y hy hm; simp at hm; subst hm; exact nbv hy)
    have k4 := k3.fr f4 (by simpa using nb.symm)
    have hus := used_set hi (fs[i].data ++ p.take n) fs[i].syn fs[i].name
    have hlt4 := o4.lt
    have rb : r ≠ b := hm.ne_blk hb
    have rf : r ≠ fs[i].fb := hm.ne_blk ok.blk
    have rq : r ∉ blkOf fs[i].q := hm.notin ok.own
    have htl : (p.take n).length = n := by rw [List.length_take]; omega
    rw [List.length_append, htl] at hus
    have hset : (fs.map FE.ab).set i (fs[i].name, fs[i].data ++ p.take n, fs[i].syn) = (fs.set i ⟨fs[i].name, fs[i].fb, v', fs[i].data ++ p.take n, fs[i].syn⟩).map FE.ab := by rw [List.map_set]; rfl
    have hkeys : keysOf (fs.set i ⟨fs[i].name, fs[i].fb, v', fs[i].data ++ p.take n, fs[i].syn⟩) = keysOf fs := by
      unfold keysOf
      rw [List.map_set]
      apply List.ext_getElem
      · simp
      · intro j h1 h2
        rw [List.getElem_set]
        split
        · rename_i h; subst h; simp
        · rfl
    refine ⟨⟨⟨r, fs.set i ⟨fs[i].name, fs[i].fb, v', fs[i].data ++ p.take n, fs[i].syn⟩, hset, ?_, ?_, ?_, .inl hDr⟩, .inl hDb, ?_, hfuse, by omega, by simp; omega⟩, ⟨⟨_, F, ?_⟩, fun y hy => .inl hy, fun y hy => hy.imp id (·.1)⟩⟩
    · have : ((used ((fs.map FE.ab).set i (fs[i].name, fs[i].data ++ p.take n, fs[i].syn)) : Nat) : Int) = ((U + n : Nat) : Int) := by omega
      rw [this]; exact hb4
    · rw [hkeys]; exact hm.fr F (by simp [rb, rf, rq])
    · refine hfs.set hi rfl rfl F ?_ (fun y hy => .inl hy) ⟨k4, o4, zs_append ok.zs (zs_take hz n), ?_, .inl ok.reg.1, ?_⟩ hv1'
      · intro y hy
        simp only [List.mem_cons] at hy
        rcases hy with hy | hy | hy
        · subst hy; right; right; exact fun j hj => ⟨hb.ne (hfs.ok j hj).blk (by decide), hb.notin (hfs.ok j hj).own (by decide)⟩
        · exact .inl hy
        · exact .inr (.inl hy)
      · show fs[i].syn ≤ (fs[i].data ++ p.take n).length
        rw [List.length_append]; have := ok.syn; omega
      · intro y hy
        rcases hv1' y hy with hh | hh
        · exact .inl (ok.reg.2 y hh)
        · exact .inr ⟨hh, hlt4 y hy⟩
    · intro y hy
      rcases hy with hy | hy
      · have := hlt y hy; omega
      · exact hy.2
    · intro y hy
      simp only [List.mem_cons] at hy
      rcases hy with hy | hy | hy
      · subst hy; exact hDb
      · subst hy; exact ok.reg.1
      · exact ok.reg.2 y hy
  by_cases hnl : n < p.length
  · have hc4 : (n : Int) < (u.2.1 : Int) := by omega
    have t4 : st1 w3 ⟨b, 2, none⟩ (.bool true) = some (w3.setCell ⟨b, 2, none⟩ (.bool true)) := hb3.st1 (by simp) rfl
    have hb4 := hb3.set 2 (.bool true)
    simp only [List.set_cons_succ, List.set_cons_zero] at hb4
    obtain ⟨d, c⟩ := fin _ true Fr.setCell hb4
    refine ⟨_, _, ?_, by rw [decide_eq_true hnl]; exact d, c⟩
    rw [if_pos hnl]
    unfold g19_j30
    simp only [c0, eq, e1, t1, addr_add, Nat.zero_add, c3, hw, t3, hc4, t4, Option.bind_some, asP_pointer, asB_bool, asI_int, asS_string, asSl_slice, asM_map, asTup0, asTup1, asTup2, asTup3, asTup4, asTup5, getD0, getD1, getD2, getD3, getD4, Bool.not_true, Bool.not_false, Bool.false_eq_true, Bool.true_eq_false, ↓reduceIte, decide_true, decide_false, Option.isNone_some, Option.isNone_none, Option.isSome_some, Option.isSome_none, beq_self_eq_true, bne_self_eq_false, Bool.and_true, Bool.true_and, Bool.and_false, Bool.false_and, not_true_eq_false, not_false_eq_true]
  · have hc4 : ¬ (n : Int) < (u.2.1 : Int) := by omega
    obtain ⟨d, c⟩ := fin _ false (Fr.refl _ _) hb3
    refine ⟨_, _, ?_, by rw [decide_eq_false hnl]; exact d, c⟩
    rw [if_neg hnl]
    unfold g19_j30
    simp only [c0, eq, e1, t1, addr_add, Nat.zero_add, c3, hw, t3, hc4, Option.bind_some, asP_pointer, asB_bool, asI_int, asS_string, asSl_slice, asM_map, asTup0, asTup1, asTup2, asTup3, asTup4, asTup5, getD0, getD1, getD2, getD3, getD4, Bool.not_true, Bool.not_false, Bool.false_eq_true, Bool.true_eq_false, ↓reduceIte, decide_true, decide_false, Option.isNone_some, Option.isNone_none, Option.isSome_some, Option.isSome_none, beq_self_eq_true, bne_self_eq_false, Bool.and_true, Bool.true_and, Bool.and_false, Bool.false_and, not_true_eq_false, not_false_eq_true]
end
end Go.Proofs.Ytnflklkjjjlpaaa

namespace Go.Proofs.Ytnflklkjjjlpaaa
open Go Go.Ev
set_option maxRecDepth 100000
set_option linter.unusedVariables false
set_option linter.unusedSimpArgs false

/-- how many bytes are written -/
def tookN (fuse : Int) (l : Nat) : Nat := if fuse ≥ 0 then min fuse.toNat l else l
def fuseN (fuse : Int) (l : Nat) : Int := if fuse ≥ 0 then fuse - (tookN fuse l : Int) else fuse
def putF (bs : List Int) (o : Option FV) : FV := match o with | none => (bs, 0) | some v => (v.1 ++ bs, v.2)

/-- what Append answers, and what there is then -/
def appA (A : List (ByteArray × FV)) (fuse : Int) (dead : Bool) (n : ByteArray) (p : List Int) : Int × List (ByteArray × FV) × Int × Bool :=
  if dead = true then (9, A, fuse, true)
  else if n.size = 0 ∨ n.size > 24 then (1, A, fuse, false)
  else if p.length > 4194304 - used A ∨ kget A n = none ∧ A.length = 4096 then (3, A, fuse, false)
  else (if tookN fuse p.length < p.length then 9 else 0, kups A n (putF (p.take (tookN fuse p.length))), fuseN fuse p.length, decide (tookN fuse p.length < p.length))

section
variable {w : World} {D : Nat → Prop} {b : Nat} {A : List (ByteArray × FV)} {fuse : Int} {dead : Bool}

theorem mid8 {r : Nat} {fs : List FE} {U : Nat} (hb : Blk w b [.map (some r), .int .i64 fuse, .bool false, .int .i64 (U : Int)] 60) (hU : U = used (fs.map FE.ab)) (hm : MapAt Value.string w r (keysOf fs)) (hfs : Fs w D fs) (hDr : D r) (hDb : D b)
    (hlt : ∀ y, D y → y < w.heap.size) (hfuse : -1 ≤ fuse ∧ fuse ≤ 9223372036854775807) (hlen : fs.length ≤ 4096) {i : Nat} (hi : i < fs.length) {u : Option Addr × Nat × Nat} {p : List Int} (hp : Sl8 w u p) (hz : Zs p) (hc : u.2.1 ≤ u.2.2)
    (hd : 0 < p.length → ∀ y ∈ blkOf u, ¬ D y) (hroom : U + p.length ≤ 4194304) :
    ∃ w' D', g19_j8 (some ⟨b, 0, none⟩) u (some ⟨fs[i].fb, 0, none⟩) w = some (.int .i64 (if tookN fuse p.length < p.length then 9 else 0), w') ∧
      Dk w' D' b ((fs.map FE.ab).set i (fs[i].name, fs[i].data ++ p.take (tookN fuse p.length), fs[i].syn)) (fuseN fuse p.length) (decide (tookN fuse p.length < p.length)) ∧ Chg D w w' D' := by
  have hul := hp.1
  have c1 : w.cell? ⟨b, 1, none⟩ = some (.int .i64 fuse) := hb.cell 1
  by_cases hf0 : fuse ≥ 0
  · have ht : tookN fuse p.length = min fuse.toNat p.length := by unfold tookN; rw [if_pos hf0]
    have hfu : fuseN fuse p.length = fuse - (tookN fuse p.length : Int) := by unfold fuseN; rw [if_pos hf0]
    have hx : (if (fuse : Int) < (u.2.1 : Int) then fuse else (u.2.1 : Int)) = ((tookN fuse p.length : Nat) : Int) := by
      rw [ht]; split <;> omega
    have hle : tookN fuse p.length ≤ p.length := by rw [ht]; exact Nat.min_le_right _ _
    have hle2 : (tookN fuse p.length : Int) ≤ fuse := by rw [ht]; omega
    have hw : IntKind.i64.wrap (fuse - (tookN fuse p.length : Int)) = fuseN fuse p.length := by rw [hfu, wrap_i64 (by omega) (by omega)]
    have t1 : st1 w ⟨b, 1, none⟩ (.int .i64 (fuseN fuse p.length)) = some (w.setCell ⟨b, 1, none⟩ (.int .i64 (fuseN fuse p.length))) := hb.st1 (by simp) rfl
    have f1 : Fr [b] w (w.setCell ⟨b, 1, none⟩ (.int .i64 (fuseN fuse p.length))) := Fr.setCell
    have hb1 := hb.set 1 (.int .i64 (fuseN fuse p.length))
    simp only [List.set_cons_succ, List.set_cons_zero] at hb1
    have rb : r ≠ b := hm.ne_blk hb
    have hm1 := hm.fr f1 (by simpa using rb)
    have hfs1 : Fs (w.setCell ⟨b, 1, none⟩ (.int .i64 (fuseN fuse p.length))) D fs := hfs.fr f1 (by
      intro y hy j hj
      simp at hy; subst hy
      exact ⟨hb.ne (hfs.ok j hj).blk (by decide), hb.notin (hfs.ok j hj).own (by decide)⟩) (fun _ => id)
    have hp1 := SlI.fr3 hp f1 (by intro h0 y hy hm; simp at hm; subst hm; exact hd (by omega) y hy hDb)
    obtain ⟨w', D', e, d, c⟩ := tail30 (n := tookN fuse p.length) hb1 hU hm1 hfs1 hDr hDb (by intro y hy; have := hlt y hy; have := f1.size; omega) (by rw [hfu]; omega) hlen hi hp1 hz hc hd hle hroom
    refine ⟨w', D', ?_, d, ?_⟩
    · unfold g19_j8
      simp only [addr_add, Nat.zero_add, c1, hf0, hx, hw, t1, e, Option.bind_some, asP_pointer, asB_bool, asI_int, asS_string, asSl_slice, asM_map, asTup0, asTup1, asTup2, asTup3, asTup4, asTup5, getD0, getD1, getD2, getD3, getD4, Bool.not_true, Bool.not_false, Bool.false_eq_true, Bool.true_eq_false, ↓reduceIte, decide_true, decide_false, Option.isNone_some, Option.isNone_none, Option.isSome_some, Option.isSome_none, beq_self_eq_true, bne_self_eq_false, Bool.and_true, Bool.true_and, Bool.and_false, Bool.false_and, not_true_eq_false, not_false_eq_true]
    · exact Chg.trans (Chg.of_fr f1 (by intro y hy _; simp at hy; subst hy; exact hDb)) c hlt
  · have ht : tookN fuse p.length = p.length := by unfold tookN; rw [if_neg hf0]
    have hfu : fuseN fuse p.length = fuse := by unfold fuseN; rw [if_neg hf0]
    rw [ht, hfu]
    obtain ⟨w', D', e, d, c⟩ := tail30 (n := p.length) hb hU hm hfs hDr hDb hlt hfuse hlen hi hp hz hc hd (Nat.le_refl _) hroom
    refine ⟨w', D', ?_, d, c⟩
    have hx : (u.2.1 : Int) = ((p.length : Nat) : Int) := by omega
    unfold g19_j8
    simp only [addr_add, Nat.zero_add, c1, hf0, hx, e, Option.bind_some, asP_pointer, asB_bool, asI_int, asS_string, asSl_slice, asM_map, asTup0, asTup1, asTup2, asTup3, asTup4, asTup5, getD0, getD1, getD2, getD3, getD4, Bool.not_true, Bool.not_false, Bool.false_eq_true, Bool.true_eq_false, ↓reduceIte, decide_true, decide_false, Option.isNone_some, Option.isNone_none, Option.isSome_some, Option.isSome_none, beq_self_eq_true, bne_self_eq_false, Bool.and_true, Bool.true_and, Bool.and_false, Bool.false_and, not_true_eq_false, not_false_eq_true]

theorem append10 (h : Dk w D b A fuse dead) (n : ByteArray) {u : Option Addr × Nat × Nat} {p : List Int} (hp : Sl8 w u p) (hz : Zs p) (hc : u.2.1 ≤ u.2.2) (hd : 0 < p.length → ∀ y ∈ blkOf u, ¬ D y) (hpl : p.length ≤ 9223372036854775807) :
    ∃ w' D', callF Try.prog 19 #[.pointer (some ⟨b, 0, none⟩), .string n, .slice u.1 u.2.1 u.2.2] w = some (.int .i64 (appA A fuse dead n p).1, w') ∧
      Dk w' D' b (appA A fuse dead n p).2.1 (appA A fuse dead n p).2.2.1 (appA A fuse dead n p).2.2.2 ∧ Chg D w w' D' := by
  have hul := hp.1
  have e25 := state25 h
  have h90 : ((9 : Int) != 0) = true := by decide
  have h00 : ((0 : Int) != 0) = false := by decide
  cases dead with
  | true =>
    have ha : appA A fuse true n p = (9, A, fuse, true) := by unfold appA; rw [if_pos rfl]
    rw [ha]
    refine ⟨w, D, g19_call ?_, h, Chg.refl _ _⟩
    unfold g19
    simp only [e25, h90, Option.bind_some, asP_pointer, asB_bool, asI_int, asS_string, asSl_slice, asM_map, asTup0, asTup1, asTup2, asTup3, asTup4, asTup5, getD0, getD1, getD2, getD3, getD4, Bool.not_true, Bool.not_false, Bool.false_eq_true, Bool.true_eq_false, ↓reduceIte, decide_true, decide_false, Option.isNone_some, Option.isNone_none, Option.isSome_some, Option.isSome_none, beq_self_eq_true, bne_self_eq_false, Bool.and_true, Bool.true_and, Bool.and_false, Bool.false_and, not_true_eq_false, not_false_eq_true]
  | false =>
    have hused := h.used
    have hfuse := h.fuse
    have hlen0 := h.len
    have hDb := h.db
    have hlt := h.lt
    obtain ⟨r, fs, h1, h2, h3, h4, h5⟩ := h.ex
    have c0 : w.cell? ⟨b, 0, none⟩ = some (.map (some r)) := h2.cell 0
    have c3 : w.cell? ⟨b, 3, none⟩ = some (.int .i64 ((used A : Nat) : Int)) := h2.cell 3
    have lk := look_ptr h3 n
    by_cases hn0 : n.size = 0
    · have ha : appA A fuse false n p = (1, A, fuse, false) := by unfold appA; rw [if_neg (by decide), if_pos (.inl hn0)]
      rw [ha]
      refine ⟨w, D, g19_call ?_, h, Chg.refl _ _⟩
      have hs : (n.toList == (⟨#[]⟩ : ByteArray).toList) = true := by rw [str_empty]; simpa using hn0
      rcases keysOf_get fs n with ⟨i, hi, k1, k2, k3, k4, k5, k6⟩ | ⟨k1, k2, k3, k4⟩
      · rw [k2] at lk
        unfold g19
        simp only [e25, h00, c0, lk, Option.getD_some, hs, Option.bind_some, asP_pointer, asB_bool, asI_int, asS_string, asSl_slice, asM_map, asTup0, asTup1, asTup2, asTup3, asTup4, asTup5, getD0, getD1, getD2, getD3, getD4, Bool.not_true, Bool.not_false, Bool.false_eq_true, Bool.true_eq_false, ↓reduceIte, decide_true, decide_false, Option.isNone_some, Option.isNone_none, Option.isSome_some, Option.isSome_none, beq_self_eq_true, bne_self_eq_false, Bool.and_true, Bool.true_and, Bool.and_false, Bool.false_and, not_true_eq_false, not_false_eq_true]
      · rw [k1] at lk
        unfold g19
        simp only [e25, h00, c0, lk, Option.getD_none, hs, Option.bind_some, asP_pointer, asB_bool, asI_int, asS_string, asSl_slice, asM_map, asTup0, asTup1, asTup2, asTup3, asTup4, asTup5, getD0, getD1, getD2, getD3, getD4, Bool.not_true, Bool.not_false, Bool.false_eq_true, Bool.true_eq_false, ↓reduceIte, decide_true, decide_false, Option.isNone_some, Option.isNone_none, Option.isSome_some, Option.isSome_none, beq_self_eq_true, bne_self_eq_false, Bool.and_true, Bool.true_and, Bool.and_false, Bool.false_and, not_true_eq_false, not_false_eq_true]
    · have hs : (n.toList == (⟨#[]⟩ : ByteArray).toList) = false := by rw [str_empty]; simpa using hn0
      by_cases hn24 : n.size > 24
      · have ha : appA A fuse false n p = (1, A, fuse, false) := by unfold appA; rw [if_neg (by decide), if_pos (.inr hn24)]
        rw [ha]
        refine ⟨w, D, g19_call ?_, h, Chg.refl _ _⟩
        have hg : (n.size : Int) > 24 := by omega
        rcases keysOf_get fs n with ⟨i, hi, k1, k2, k3, k4, k5, k6⟩ | ⟨k1, k2, k3, k4⟩
        · rw [k2] at lk
          unfold g19
          simp only [e25, h00, c0, lk, Option.getD_some, hs, hg, Option.bind_some, asP_pointer, asB_bool, asI_int, asS_string, asSl_slice, asM_map, asTup0, asTup1, asTup2, asTup3, asTup4, asTup5, getD0, getD1, getD2, getD3, getD4, Bool.not_true, Bool.not_false, Bool.false_eq_true, Bool.true_eq_false, ↓reduceIte, decide_true, decide_false, Option.isNone_some, Option.isNone_none, Option.isSome_some, Option.isSome_none, beq_self_eq_true, bne_self_eq_false, Bool.and_true, Bool.true_and, Bool.and_false, Bool.false_and, not_true_eq_false, not_false_eq_true]
        · rw [k1] at lk
          unfold g19
          simp only [e25, h00, c0, lk, Option.getD_none, hs, hg, Option.bind_some, asP_pointer, asB_bool, asI_int, asS_string, asSl_slice, asM_map, asTup0, asTup1, asTup2, asTup3, asTup4, asTup5, getD0, getD1, getD2, getD3, getD4, Bool.not_true, Bool.not_false, Bool.false_eq_true, Bool.true_eq_false, ↓reduceIte, decide_true, decide_false, Option.isNone_some, Option.isNone_none, Option.isSome_some, Option.isSome_none, beq_self_eq_true, bne_self_eq_false, Bool.and_true, Bool.true_and, Bool.and_false, Bool.false_and, not_true_eq_false, not_false_eq_true]
      · have hg : ¬ (n.size : Int) > 24 := by omega
        have hw : IntKind.i64.wrap (4194304 - ((used A : Nat) : Int)) = 4194304 - ((used A : Nat) : Int) := wrap_i64 (by omega) (by omega)
        by_cases hbig : p.length > 4194304 - used A
        · have ha : appA A fuse false n p = (3, A, fuse, false) := by unfold appA; rw [if_neg (by decide), if_neg (by omega), if_pos (.inl hbig)]
          rw [ha]
          refine ⟨w, D, g19_call ?_, h, Chg.refl _ _⟩
          have hg2 : (u.2.1 : Int) > 4194304 - ((used A : Nat) : Int) := by omega
          rcases keysOf_get fs n with ⟨i, hi, k1, k2, k3, k4, k5, k6⟩ | ⟨k1, k2, k3, k4⟩
          · rw [k2] at lk
            unfold g19
            simp only [e25, h00, c0, lk, Option.getD_some, hs, hg, addr_add, Nat.zero_add, c3, hw, hg2, Option.bind_some, asP_pointer, asB_bool, asI_int, asS_string, asSl_slice, asM_map, asTup0, asTup1, asTup2, asTup3, asTup4, asTup5, getD0, getD1, getD2, getD3, getD4, Bool.not_true, Bool.not_false, Bool.false_eq_true, Bool.true_eq_false, ↓reduceIte, decide_true, decide_false, Option.isNone_some, Option.isNone_none, Option.isSome_some, Option.isSome_none, beq_self_eq_true, bne_self_eq_false, Bool.and_true, Bool.true_and, Bool.and_false, Bool.false_and, not_true_eq_false, not_false_eq_true]
          · rw [k1] at lk
            unfold g19
            simp only [e25, h00, c0, lk, Option.getD_none, hs, hg, addr_add, Nat.zero_add, c3, hw, hg2, Option.bind_some, asP_pointer, asB_bool, asI_int, asS_string, asSl_slice, asM_map, asTup0, asTup1, asTup2, asTup3, asTup4, asTup5, getD0, getD1, getD2, getD3, getD4, Bool.not_true, Bool.not_false, Bool.false_eq_true, Bool.true_eq_false, ↓reduceIte, decide_true, decide_false, Option.isNone_some, Option.isNone_none, Option.isSome_some, Option.isSome_none, beq_self_eq_true, bne_self_eq_false, Bool.and_true, Bool.true_and, Bool.and_false, Bool.false_and, not_true_eq_false, not_false_eq_true]
        · have hg2 : ¬ (u.2.1 : Int) > 4194304 - ((used A : Nat) : Int) := by omega
          subst h1
          have hfl : fs.length ≤ 4096 := by simpa using hlen0
          rcases keysOf_get fs n with ⟨i, hi, k1, k2, k3, k4, k5, k6⟩ | ⟨k1, k2, k3, k4⟩
          · rw [k2] at lk
            have ha : appA (fs.map FE.ab) fuse false n p = (if tookN fuse p.length < p.length then 9 else 0, (fs.map FE.ab).set i (fs[i].name, fs[i].data ++ p.take (tookN fuse p.length), fs[i].syn), fuseN fuse p.length, decide (tookN fuse p.length < p.length)) := by
              unfold appA
              rw [if_neg (by decide), if_neg (by omega), if_neg (by rw [k3]; simp; omega), k4, k1]
              rfl
            rw [ha]
            obtain ⟨w', D', e, d, c⟩ := mid8 h2 rfl h3 h4 h5 hDb hlt hfuse hfl hi hp hz hc hd (by omega)
            refine ⟨w', D', g19_call ?_, d, c⟩
            unfold g19
            simp only [e25, h00, c0, lk, Option.getD_some, hs, hg, addr_add, Nat.zero_add, c3, hw, hg2, e, Option.bind_some, asP_pointer, asB_bool, asI_int, asS_string, asSl_slice, asM_map, asTup0, asTup1, asTup2, asTup3, asTup4, asTup5, getD0, getD1, getD2, getD3, getD4, Bool.not_true, Bool.not_false, Bool.false_eq_true, Bool.true_eq_false, ↓reduceIte, decide_true, decide_false, Option.isNone_some, Option.isNone_none, Option.isSome_some, Option.isSome_none, beq_self_eq_true, bne_self_eq_false, Bool.and_true, Bool.true_and, Bool.and_false, Bool.false_and, not_true_eq_false, not_false_eq_true]
          · rw [k1] at lk
            have c0' : mLen w (some r) = some (fs.map FE.ab).length := by rw [h3.len]; simp [keysOf]
            by_cases hfull : (fs.map FE.ab).length = 4096
            · have ha : appA (fs.map FE.ab) fuse false n p = (3, fs.map FE.ab, fuse, false) := by
                unfold appA
                rw [if_neg (by decide), if_neg (by omega), if_pos (.inr ⟨k2, hfull⟩)]
              rw [ha]
              refine ⟨w, D, g19_call ?_, h, Chg.refl _ _⟩
              have hq : ((((fs.map FE.ab).length : Nat) : Int) == 4096) = true := by rw [hfull]; rfl
              unfold g19
              simp only [e25, h00, c0, lk, Option.getD_none, hs, hg, addr_add, Nat.zero_add, c3, hw, hg2, c0', hq, Option.bind_some, asP_pointer, asB_bool, asI_int, asS_string, asSl_slice, asM_map, asTup0, asTup1, asTup2, asTup3, asTup4, asTup5, getD0, getD1, getD2, getD3, getD4, Bool.not_true, Bool.not_false, Bool.false_eq_true, Bool.true_eq_false, ↓reduceIte, decide_true, decide_false, Option.isNone_some, Option.isNone_none, Option.isSome_some, Option.isSome_none, beq_self_eq_true, bne_self_eq_false, Bool.and_true, Bool.true_and, Bool.and_false, Bool.false_and, not_true_eq_false, not_false_eq_true]
            · have ha : appA (fs.map FE.ab) fuse false n p = (if tookN fuse p.length < p.length then 9 else 0, fs.map FE.ab ++ [(n, p.take (tookN fuse p.length), 0)], fuseN fuse p.length, decide (tookN fuse p.length < p.length)) := by
                unfold appA
                rw [if_neg (by decide), if_neg (by omega), if_neg (by simp at hfull; simp [k2]; omega), k4]
                rfl
              rw [ha]
              have hq : ((((fs.map FE.ab).length : Nat) : Int) == 4096) = false := by
                have : ¬ (((fs.map FE.ab).length : Nat) : Int) = 4096 := by omega
                simpa using this
              have f1 : Fr [] w (w.alloc (.cells #[.slice none 0 0, .int .i64 0] 76)) := Fr.alloc _
              have nb := Blk.new w [.slice none 0 0, .int .i64 0] 76
              have hz1 : (w.alloc (.cells #[.slice none 0 0, .int .i64 0] 76)).heap.size = w.heap.size + 1 := Array.size_push _
              change Blk (w.alloc (.cells #[.slice none 0 0, .int .i64 0] 76)) _ _ _ at nb
              have g2 := h2.fr f1 (by simp)
              have g3 := h3.fr f1 (by simp)
              have hp1 := SlI.fr2 hp f1 (by simp)
              have d0 : (w.alloc (.cells #[.slice none 0 0, .int .i64 0] 76)).cell? ⟨b, 0, none⟩ = some (.map (some r)) := g2.cell 0
              generalize hw1 : w.alloc (.cells #[.slice none 0 0, .int .i64 0] 76) = w1 at f1 nb hz1 g2 g3 hp1 d0
              obtain ⟨w2, e2, m2, f2⟩ := g3.upd keyOk_str n (.pointer (some ⟨w.heap.size, 0, none⟩))
              rw [insA_new k1] at m2
              have rb : r ≠ b := g3.ne_blk g2
              have rn : r ≠ w.heap.size := g3.ne_blk nb
              have g4 := g2.fr f2 (by simpa using rb.symm)
              have nb2 := nb.fr f2 (by simpa using rn.symm)
              have hp2 := SlI.fr3 hp1 f2 (by intro h0 y hy hm; simp at hm; subst hm; exact hd (by omega) y hy h5)
              have F2 : Fr [r] w w2 := (Fr.mono (Fr.app f1 f2) (by have z0_ := Fr.size f1; have z1_ := Fr.size f2; intro y_ hy_ hl_; grind [blkOf]))
              have z2 := f2.size
              have hfs2 : Fs w2 (fun y => D y ∨ y = w.heap.size) (fs ++ [(⟨n, w.heap.size, (none, 0, 0), [], 0⟩ : FE)]) := h4.push (f := (⟨n, w.heap.size, (none, 0, 0), [], 0⟩ : FE)) k3 F2 (by
                intro y hy j hj
                simp at hy; subst hy
                exact ⟨h3.ne_blk (h4.ok j hj).blk, h3.notin (h4.ok j hj).own⟩) (fun y hy => .inl hy) ⟨nb2, Own.nil _ _ _, by intro z hz; simp at hz, Nat.le_refl _, .inr rfl, by simp [blkOf]⟩ (Nat.le_refl _) (by simp [blkOf])
              have hkk : keysOf fs ++ [(n, .pointer (some ⟨w.heap.size, 0, none⟩))] = keysOf (fs ++ [(⟨n, w.heap.size, (none, 0, 0), [], 0⟩ : FE)]) := by simp [keysOf]
              rw [hkk] at m2
              have hab : (fs ++ [(⟨n, w.heap.size, (none, 0, 0), [], 0⟩ : FE)]).map FE.ab = fs.map FE.ab ++ [(n, [], 0)] := by simp [FE.ab]
              have hus : used ((fs ++ [(⟨n, w.heap.size, (none, 0, 0), [], 0⟩ : FE)]).map FE.ab) = used (fs.map FE.ab) := by rw [hab, used_append]; simp [used]
              obtain ⟨w', D', e, d, c⟩ := mid8 (D := fun y => D y ∨ y = w.heap.size) g4 hus.symm m2 hfs2 (.inl h5) (.inl hDb) (by intro y hy; rcases hy with hy | hy <;> first | (have := hlt y hy; omega) | omega) hfuse (by simp at hfull ⊢; omega) (i := fs.length) (by simp) hp2 hz hc
                (by intro h0 y hy hm; rcases hm with hm | hm
                    · exact hd h0 y hy hm
                    · obtain ⟨bb, off, j1, j2, _⟩ := hp.2 (by omega)
                      simp [blkOf, j1] at hy; omega) (by omega)
              have hgi : (fs ++ [(⟨n, w.heap.size, (none, 0, 0), [], 0⟩ : FE)])[fs.length]'(by simp) = (⟨n, w.heap.size, (none, 0, 0), [], 0⟩ : FE) := by simp
              rw [hgi] at e d
              have hset : ((fs ++ [(⟨n, w.heap.size, (none, 0, 0), [], 0⟩ : FE)]).map FE.ab).set fs.length (n, [] ++ p.take (tookN fuse p.length), 0) = fs.map FE.ab ++ [(n, p.take (tookN fuse p.length), 0)] := by
                rw [hab]
                apply List.ext_getElem
                · simp
                · intro j j1 j2
                  rw [List.getElem_set]
                  split
                  · rename_i hj; subst hj; simp
                  · rename_i hj
                    simp only [List.length_append, List.length_map, List.length_cons, List.length_nil] at j2
                    rw [List.getElem_append_left (by simp; omega), List.getElem_append_left (by simp; omega)]
              rw [hset] at d
              refine ⟨w', D', g19_call ?_, d, ?_⟩
              · unfold g19
                simp only [e25, h00, c0, lk, Option.getD_none, hs, hg, addr_add, Nat.zero_add, c3, hw, hg2, c0', hq, hw1, d0, e2, e, Option.bind_some, asP_pointer, asB_bool, asI_int, asS_string, asSl_slice, asM_map, asTup0, asTup1, asTup2, asTup3, asTup4, asTup5, getD0, getD1, getD2, getD3, getD4, Bool.not_true, Bool.not_false, Bool.false_eq_true, Bool.true_eq_false, ↓reduceIte, decide_true, decide_false, Option.isNone_some, Option.isNone_none, Option.isSome_some, Option.isSome_none, beq_self_eq_true, bne_self_eq_false, Bool.and_true, Bool.true_and, Bool.and_false, Bool.false_and, not_true_eq_false, not_false_eq_true]
              · obtain ⟨S, cf, cS⟩ := c.fr
                refine Chg.trans ⟨⟨[r], F2, by intro y hy; simp at hy; subst hy; exact h5⟩, fun y hy => .inl hy, fun y hy => by rcases hy with hy | hy <;> first | exact .inl hy | (right; omega)⟩ c hlt
end
end Go.Proofs.Ytnflklkjjjlpaaa

namespace Go.Proofs.Ytnflklkjjjlpaaa
open Go Go.Ev
set_option maxRecDepth 100000
set_option linter.unusedVariables false
set_option linter.unusedSimpArgs false

/-- the first j, with no more room -/
theorem slc3 {u : Option Addr × Nat × Nat} {j : Nat} (hj : j ≤ u.2.2) :
    slc u.1 u.2.1 u.2.2 1 none (some (j : Int)) (some (j : Int)) = some (u.1, j, j) := by
  have : (if j = 0 then u.1 else u.1.map fun x => x.add 0) = u.1 := by
    split
    · rfl
    · cases u.1 <;> simp [addr_add0]
  simp [slc, bnd, hj, this]

theorem Own.cut {w : World} {e : TypeId} {v : Option Addr × Nat × Nat} {xs : List Value} (h : Own w e 1 v xs) {j : Nat} (hj : j ≤ v.2.1) : Own w e 1 (v.1, j, j) (xs.take j) := by
  have hl := h.len
  have hle := h.le
  have hmx := h.max
  refine ⟨by simp; omega, Nat.le_refl _, by show j ≤ maxLen; omega, ?_⟩
  rcases h.at_ with ⟨h1, h2⟩ | ⟨g, off, cur, h1, h2, h3, h4⟩
  · exact .inl ⟨h1, by show j = 0; omega⟩
  · refine .inr ⟨g, off, cur, h1, h2, by show off + j * 1 ≤ cur.size; omega, ?_⟩
    show (cur.toList.drop off).take (j * 1) = xs.take j
    rw [← h4, List.take_take]
    congr 1; omega

section
variable {w : World} {D : Nat → Prop} {b : Nat} {A : List (ByteArray × FV)} {fuse : Int} {dead : Bool}

/-- one file was written in its place -/
theorem dk_put {r : Nat} {fs : List FE} {w' : World} {S : List Nat} {D' : Nat → Prop} {fuse' : Int} {dead' : Bool} {i : Nat} (hi : i < fs.length) {f : FE} (hn : f.name = fs[i].name) (hfb : f.fb = fs[i].fb)
    (hb0 : Blk w b [.map (some r), .int .i64 fuse, .bool dead, .int .i64 ((used (fs.map FE.ab) : Nat) : Int)] 60) (hm : MapAt Value.string w r (keysOf fs)) (hfs : Fs w D fs) (hDr : D r) (hDb : D b) (hlt : ∀ y, D y → y < w.heap.size)
    (F : Fr S w w') (hS : ∀ y ∈ S, y = b ∨ y = fs[i].fb ∨ y ∈ blkOf fs[i].q) (hD : ∀ y, D y → D' y) (hD2 : ∀ y, D' y → D y ∨ w.heap.size ≤ y ∧ y < w'.heap.size)
    (hb : Blk w' b [.map (some r), .int .i64 fuse', .bool dead', .int .i64 ((used ((fs.map FE.ab).set i f.ab) : Nat) : Int)] 60) (ok : FeOk w' D' f) (hq : ∀ y ∈ blkOf f.q, y ∈ blkOf fs[i].q ∨ w.heap.size ≤ y)
    (hfuse : -1 ≤ fuse' ∧ fuse' ≤ 9223372036854775807) (hused : used ((fs.map FE.ab).set i f.ab) ≤ 4194304) (hlen : fs.length ≤ 4096) :
    Dk w' D' b ((fs.map FE.ab).set i f.ab) fuse' dead' ∧ Chg D w w' D' := by
  have ok0 := hfs.ok i hi
  have rb : r ≠ b := hm.ne_blk hb0
  have rf : r ≠ fs[i].fb := hm.ne_blk ok0.blk
  have rq : r ∉ blkOf fs[i].q := hm.notin ok0.own
  have hset : (fs.map FE.ab).set i f.ab = (fs.set i f).map FE.ab := by rw [List.map_set]
  have hkeys : keysOf (fs.set i f) = keysOf fs := by
    unfold keysOf
    rw [List.map_set]
    apply List.ext_getElem
    · simp
    · intro j h1 h2
      rw [List.getElem_set]
      split
      · rename_i h; subst h; simp [hn, hfb]
      · rfl
  have hsz := F.size
  refine ⟨⟨⟨r, fs.set i f, hset, hb, ?_, ?_, hD r hDr⟩, hD b hDb, ?_, hfuse, hused, by simp; omega⟩, ⟨⟨S, F, ?_⟩, hD, fun y hy => (hD2 y hy).imp id (·.1)⟩⟩
  · rw [hkeys]; exact hm.fr F (by intro hy; rcases hS _ hy with hh | hh | hh; exact rb hh; exact rf hh; exact rq hh)
  · refine hfs.set hi hn hfb F ?_ hD ok hq
    intro y hy
    rcases hS y hy with hh | hh | hh
    · subst hh; right; right; exact fun j hj => ⟨hb0.ne (hfs.ok j hj).blk (by decide), hb0.notin (hfs.ok j hj).own (by decide)⟩
    · exact .inl hh
    · exact .inr (.inl hh)
  · intro y hy
    rcases hD2 y hy with hh | hh
    · have := hlt y hh; omega
    · exact hh.2
  · intro y hy
    rcases hS y hy with hh | hh | hh
    · subst hh; exact hDb
    · subst hh; exact ok0.reg.1
    · exact ok0.reg.2 y hh

def synF (o : Option FV) : FV := match o with | none => ([], 0) | some v => (v.1, v.1.length)
def syncA (A : List (ByteArray × FV)) (dead : Bool) (n : ByteArray) : Int × List (ByteArray × FV) :=
  if dead = true then (9, A) else match kget A n with | none => (4, A) | some _ => (0, kups A n synF)

theorem sync13 (h : Dk w D b A fuse dead) (n : ByteArray) : ∃ w', callF Try.prog 20 #[.pointer (some ⟨b, 0, none⟩), .string n] w = some (.int .i64 (syncA A dead n).1, w') ∧ Dk w' D b (syncA A dead n).2 fuse dead ∧ Chg D w w' D := by
  have h90 : ((9 : Int) == 0) = false := by decide
  have h40 : ((4 : Int) == 0) = false := by decide
  have h00 : ((0 : Int) == 0) = true := by decide
  cases dead with
  | true =>
    refine ⟨w, g20_call ?_, h, Chg.refl _ _⟩
    have e := find26_dead h n
    have : (syncA A true n) = (9, A) := by unfold syncA; rw [if_pos rfl]
    rw [this]
    unfold g20
    simp only [e, h90, Option.bind_some, asP_pointer, asB_bool, asI_int, asS_string, asSl_slice, asM_map, asTup0, asTup1, asTup2, asTup3, asTup4, asTup5, getD0, getD1, getD2, getD3, getD4, Bool.not_true, Bool.not_false, Bool.false_eq_true, Bool.true_eq_false, ↓reduceIte, decide_true, decide_false, Option.isNone_some, Option.isNone_none, Option.isSome_some, Option.isSome_none, beq_self_eq_true, bne_self_eq_false, Bool.and_true, Bool.true_and, Bool.and_false, Bool.false_and, not_true_eq_false, not_false_eq_true]
  | false =>
    obtain ⟨r, fs, h1, h2, h3, h4, h5, hc⟩ := find26 h n
    rcases hc with ⟨i, hi, k1, e, k3, k4, _, _⟩ | ⟨k1, e⟩
    · have hs : syncA A false n = (0, kups A n synF) := by unfold syncA; rw [if_neg (by decide), k3]
      have ok := h4.ok i hi
      have hol := ok.own.len
      simp only [List.length_map, Nat.mul_one] at hol
      have c0 : w.cell? ⟨fs[i].fb, 0, none⟩ = some (.slice fs[i].q.1 fs[i].q.2.1 fs[i].q.2.2) := ok.blk.cell 0
      have t1 : st1 w ⟨fs[i].fb, 1, none⟩ (.int .i64 (fs[i].q.2.1 : Int)) = some (w.setCell ⟨fs[i].fb, 1, none⟩ (.int .i64 (fs[i].q.2.1 : Int))) := ok.blk.st1 (by simp) rfl
      have f1 : Fr [fs[i].fb] w (w.setCell ⟨fs[i].fb, 1, none⟩ (.int .i64 (fs[i].q.2.1 : Int))) := Fr.setCell
      have k := ok.blk.set 1 (.int .i64 (fs[i].q.2.1 : Int))
      simp only [List.set_cons_succ, List.set_cons_zero] at k
      have hus := used_set hi fs[i].data fs[i].data.length fs[i].name
      have hb' := h2.fr f1 (by simpa using h2.ne ok.blk (by decide))
      subst h1
      obtain ⟨d, c⟩ := dk_put (f := ⟨fs[i].name, fs[i].fb, fs[i].q, fs[i].data, fs[i].data.length⟩) hi rfl rfl h2 h3 h4 h5 h.db h.lt f1 (by intro y hy; simp at hy; exact .inr (.inl hy)) (fun _ => id) (fun y hy => .inl hy) (fuse' := fuse) (dead' := false)
        (by
          have : ((used ((fs.map FE.ab).set i (FE.ab ⟨fs[i].name, fs[i].fb, fs[i].q, fs[i].data, fs[i].data.length⟩)) : Nat) : Int) = ((used (fs.map FE.ab) : Nat) : Int) := by
            simp only [FE.ab] at hus ⊢; omega
          rw [this]; exact hb')
        ⟨by show Blk _ _ [.slice fs[i].q.1 fs[i].q.2.1 fs[i].q.2.2, .int .i64 (fs[i].data.length : Int)] 76; rw [hol]; exact k, ok.own.fr f1 (by intro y hy hm; simp at hm; subst hm; exact ok.apart ok hy), ok.zs, Nat.le_refl _, ok.reg⟩
        (fun y hy => .inl hy) h.fuse (by have := h.used; simp only [FE.ab] at hus ⊢; omega) (by have := h.len; simpa using this)
      have hset : kups (fs.map FE.ab) n synF = (fs.map FE.ab).set i (FE.ab ⟨fs[i].name, fs[i].fb, fs[i].q, fs[i].data, fs[i].data.length⟩) := by rw [k4, k1]; rfl
      rw [hs]
      refine ⟨_, g20_call ?_, by rw [hset]; exact d, c⟩
      unfold g20
      simp only [e, h00, c0, addr_add, Nat.zero_add, t1, Option.bind_some, asP_pointer, asB_bool, asI_int, asS_string, asSl_slice, asM_map, asTup0, asTup1, asTup2, asTup3, asTup4, asTup5, getD0, getD1, getD2, getD3, getD4, Bool.not_true, Bool.not_false, Bool.false_eq_true, Bool.true_eq_false, ↓reduceIte, decide_true, decide_false, Option.isNone_some, Option.isNone_none, Option.isSome_some, Option.isSome_none, beq_self_eq_true, bne_self_eq_false, Bool.and_true, Bool.true_and, Bool.and_false, Bool.false_and, not_true_eq_false, not_false_eq_true]
    · have hs : syncA A false n = (4, A) := by unfold syncA; rw [if_neg (by decide), k1]
      rw [hs]
      refine ⟨w, g20_call ?_, h, Chg.refl _ _⟩
      unfold g20
      simp only [e, h40, Option.bind_some, asP_pointer, asB_bool, asI_int, asS_string, asSl_slice, asM_map, asTup0, asTup1, asTup2, asTup3, asTup4, asTup5, getD0, getD1, getD2, getD3, getD4, Bool.not_true, Bool.not_false, Bool.false_eq_true, Bool.true_eq_false, ↓reduceIte, decide_true, decide_false, Option.isNone_some, Option.isNone_none, Option.isSome_some, Option.isSome_none, beq_self_eq_true, bne_self_eq_false, Bool.and_true, Bool.true_and, Bool.and_false, Bool.false_and, not_true_eq_false, not_false_eq_true]

def readA (A : List (ByteArray × FV)) (dead : Bool) (n : ByteArray) : List Int × Int :=
  if dead = true then ([], 9) else match kget A n with | none => ([], 4) | some v => (v.1, 0)

theorem read15 (h : Dk w D b A fuse dead) (n : ByteArray) : ∃ q w', callF Try.prog 15 #[.pointer (some ⟨b, 0, none⟩), .string n] w = some (.tuple #[.slice q.1 q.2.1 q.2.2, .int .i64 (readA A dead n).2], w') ∧
    Own w' 5 1 q ((readA A dead n).1.map (Value.int .u8)) ∧ Fr [] w w' ∧ (∀ y ∈ blkOf q, w.heap.size ≤ y) ∧ Zs (readA A dead n).1 ∧ (readA A dead n).1.length ≤ 4194304 := by
  have h90 : ((9 : Int) != 0) = true := by decide
  have h40 : ((4 : Int) != 0) = true := by decide
  have h00 : ((0 : Int) != 0) = false := by decide
  have zn : Zs [] := by intro z hz; simp at hz
  cases dead with
  | true =>
    have e := find26_dead h n
    have : (readA A true n) = ([], 9) := by unfold readA; rw [if_pos rfl]
    rw [this]
    refine ⟨(none, 0, 0), w, g15_call ?_, Own.nil _ _ _, Fr.refl _ _, by simp [blkOf], zn, by simp⟩
    unfold g15
    simp only [e, h90, Option.bind_some, asP_pointer, asB_bool, asI_int, asS_string, asSl_slice, asM_map, asTup0, asTup1, asTup2, asTup3, asTup4, asTup5, getD0, getD1, getD2, getD3, getD4, Bool.not_true, Bool.not_false, Bool.false_eq_true, Bool.true_eq_false, ↓reduceIte, decide_true, decide_false, Option.isNone_some, Option.isNone_none, Option.isSome_some, Option.isSome_none, beq_self_eq_true, bne_self_eq_false, Bool.and_true, Bool.true_and, Bool.and_false, Bool.false_and, not_true_eq_false, not_false_eq_true]
  | false =>
    obtain ⟨r, fs, h1, h2, h3, h4, h5, hc⟩ := find26 h n
    rcases hc with ⟨i, hi, k1, e, k3, k4, _, _⟩ | ⟨k1, e⟩
    · have hs : readA A false n = (fs[i].data, 0) := by unfold readA; rw [if_neg (by decide), k3]
      have ok := h4.ok i hi
      have hug := used_get hi
      have hus := h.used
      subst h1
      have hol := ok.own.len
      simp only [List.length_map, Nat.mul_one] at hol
      have hml : maxLen = 9223372036854775807 := by decide
      have c0 : w.cell? ⟨fs[i].fb, 0, none⟩ = some (.slice fs[i].q.1 fs[i].q.2.1 fs[i].q.2.2) := ok.blk.cell 0
      obtain ⟨q, w1, e1, o1, f1, hq, _⟩ := app_nil t28 ok.own.slC oc8 (by omega) (by omega) 31 #[true, false]
      rw [hs]
      refine ⟨q, w1, g15_call ?_, o1, f1, hq, ok.zs, by show fs[i].data.length ≤ 4194304; omega⟩
      unfold g15
      simp only [e, h00, c0, e1, Option.bind_some, asP_pointer, asB_bool, asI_int, asS_string, asSl_slice, asM_map, asTup0, asTup1, asTup2, asTup3, asTup4, asTup5, getD0, getD1, getD2, getD3, getD4, Bool.not_true, Bool.not_false, Bool.false_eq_true, Bool.true_eq_false, ↓reduceIte, decide_true, decide_false, Option.isNone_some, Option.isNone_none, Option.isSome_some, Option.isSome_none, beq_self_eq_true, bne_self_eq_false, Bool.and_true, Bool.true_and, Bool.and_false, Bool.false_and, not_true_eq_false, not_false_eq_true]
    · have hs : readA A false n = ([], 4) := by unfold readA; rw [if_neg (by decide), k1]
      rw [hs]
      refine ⟨(none, 0, 0), w, g15_call ?_, Own.nil _ _ _, Fr.refl _ _, by simp [blkOf], zn, by simp⟩
      unfold g15
      simp only [e, h40, Option.bind_some, asP_pointer, asB_bool, asI_int, asS_string, asSl_slice, asM_map, asTup0, asTup1, asTup2, asTup3, asTup4, asTup5, getD0, getD1, getD2, getD3, getD4, Bool.not_true, Bool.not_false, Bool.false_eq_true, Bool.true_eq_false, ↓reduceIte, decide_true, decide_false, Option.isNone_some, Option.isNone_none, Option.isSome_some, Option.isSome_none, beq_self_eq_true, bne_self_eq_false, Bool.and_true, Bool.true_and, Bool.and_false, Bool.false_and, not_true_eq_false, not_false_eq_true]

def sizeA (A : List (ByteArray × FV)) (dead : Bool) (n : ByteArray) : Nat × Nat × Int :=
  if dead = true then (0, 0, 9) else match kget A n with | none => (0, 0, 4) | some v => (v.1.length, v.2, 0)

theorem size17 (h : Dk w D b A fuse dead) (n : ByteArray) : ∃ w', callF Try.prog 22 #[.pointer (some ⟨b, 0, none⟩), .string n] w = some (.tuple #[.int .i64 ((sizeA A dead n).1 : Int), .int .i64 ((sizeA A dead n).2.1 : Int), .int .i64 (sizeA A dead n).2.2], w') ∧ Fr [] w w' := by
  have h90 : ((9 : Int) != 0) = true := by decide
  have h40 : ((4 : Int) != 0) = true := by decide
  have h00 : ((0 : Int) != 0) = false := by decide
  cases dead with
  | true =>
    have e := find26_dead h n
    have : (sizeA A true n) = (0, 0, 9) := by unfold sizeA; rw [if_pos rfl]
    rw [this]
    refine ⟨w, g22_call ?_, Fr.refl _ _⟩
    unfold g22
    simp only [e, h90, Option.bind_some, asP_pointer, asB_bool, asI_int, asS_string, asSl_slice, asM_map, asTup0, asTup1, asTup2, asTup3, asTup4, asTup5, getD0, getD1, getD2, getD3, getD4, Bool.not_true, Bool.not_false, Bool.false_eq_true, Bool.true_eq_false, ↓reduceIte, decide_true, decide_false, Option.isNone_some, Option.isNone_none, Option.isSome_some, Option.isSome_none, beq_self_eq_true, bne_self_eq_false, Bool.and_true, Bool.true_and, Bool.and_false, Bool.false_and, not_true_eq_false, not_false_eq_true]
    all_goals rfl
  | false =>
    obtain ⟨r, fs, h1, h2, h3, h4, h5, hc⟩ := find26 h n
    rcases hc with ⟨i, hi, k1, e, k3, k4, _, _⟩ | ⟨k1, e⟩
    · have hs : sizeA A false n = (fs[i].data.length, fs[i].syn, 0) := by unfold sizeA; rw [if_neg (by decide), k3]
      have ok := h4.ok i hi
      have hol := ok.own.len
      simp only [List.length_map, Nat.mul_one] at hol
      have c0 : w.drew.cell? ⟨fs[i].fb, 0, none⟩ = some (.slice fs[i].q.1 fs[i].q.2.1 fs[i].q.2.2) := ok.blk.drew.cell 0
      have c1 : w.drew.cell? ⟨fs[i].fb, 1, none⟩ = some (.int .i64 (fs[i].syn : Int)) := ok.blk.drew.cell 1
      rw [hs]
      refine ⟨w.drew, g22_call ?_, Fr.drew _ _⟩
      unfold g22
      rw [hol]
      simp only [e, h00, c0, addr_add, Nat.zero_add, c1, Option.bind_some, asP_pointer, asB_bool, asI_int, asS_string, asSl_slice, asM_map, asTup0, asTup1, asTup2, asTup3, asTup4, asTup5, getD0, getD1, getD2, getD3, getD4, Bool.not_true, Bool.not_false, Bool.false_eq_true, Bool.true_eq_false, ↓reduceIte, decide_true, decide_false, Option.isNone_some, Option.isNone_none, Option.isSome_some, Option.isSome_none, beq_self_eq_true, bne_self_eq_false, Bool.and_true, Bool.true_and, Bool.and_false, Bool.false_and, not_true_eq_false, not_false_eq_true]
    · have hs : sizeA A false n = (0, 0, 4) := by unfold sizeA; rw [if_neg (by decide), k1]
      rw [hs]
      refine ⟨w, g22_call ?_, Fr.refl _ _⟩
      unfold g22
      simp only [e, h40, Option.bind_some, asP_pointer, asB_bool, asI_int, asS_string, asSl_slice, asM_map, asTup0, asTup1, asTup2, asTup3, asTup4, asTup5, getD0, getD1, getD2, getD3, getD4, Bool.not_true, Bool.not_false, Bool.false_eq_true, Bool.true_eq_false, ↓reduceIte, decide_true, decide_false, Option.isNone_some, Option.isNone_none, Option.isSome_some, Option.isSome_none, beq_self_eq_true, bne_self_eq_false, Bool.and_true, Bool.true_and, Bool.and_false, Bool.false_and, not_true_eq_false, not_false_eq_true]
      all_goals rfl

def cutF (n : Nat) (o : Option FV) : FV := match o with | none => ([], 0) | some v => (v.1.take n, min v.2 n)
def cutA (A : List (ByteArray × FV)) (dead : Bool) (nm : ByteArray) (n : Int) : Int × List (ByteArray × FV) :=
  if dead = true then (9, A) else match kget A nm with | none => (4, A) | some v => if n < 0 ∨ n > v.1.length then (1, A) else (0, kups A nm (cutF n.toNat))

theorem cut23 (h : Dk w D b A fuse dead) (nm : ByteArray) (n : Int) : ∃ w', callF Try.prog 32 #[.pointer (some ⟨b, 0, none⟩), .string nm, .int .i64 n] w = some (.int .i64 (cutA A dead nm n).1, w') ∧ Dk w' D b (cutA A dead nm n).2 fuse dead ∧ Chg D w w' D := by
  have h90 : ((9 : Int) != 0) = true := by decide
  have h40 : ((4 : Int) != 0) = true := by decide
  have h00 : ((0 : Int) != 0) = false := by decide
  cases dead with
  | true =>
    have e := find26_dead h nm
    have : (cutA A true nm n) = (9, A) := by unfold cutA; rw [if_pos rfl]
    rw [this]
    refine ⟨w, g32_call ?_, h, Chg.refl _ _⟩
    unfold g32
    simp only [e, h90, Option.bind_some, asP_pointer, asB_bool, asI_int, asS_string, asSl_slice, asM_map, asTup0, asTup1, asTup2, asTup3, asTup4, asTup5, getD0, getD1, getD2, getD3, getD4, Bool.not_true, Bool.not_false, Bool.false_eq_true, Bool.true_eq_false, ↓reduceIte, decide_true, decide_false, Option.isNone_some, Option.isNone_none, Option.isSome_some, Option.isSome_none, beq_self_eq_true, bne_self_eq_false, Bool.and_true, Bool.true_and, Bool.and_false, Bool.false_and, not_true_eq_false, not_false_eq_true]
  | false =>
    obtain ⟨r, fs, h1, h2, h3, h4, h5, hc⟩ := find26 h nm
    rcases hc with ⟨i, hi, k1, e, k3, k4, _, _⟩ | ⟨k1, e⟩
    · have ok := h4.ok i hi
      have hug := used_get hi
      have hus := h.used
      subst h1
      have hol := ok.own.len
      simp only [List.length_map, Nat.mul_one] at hol
      have c0 : w.cell? ⟨fs[i].fb, 0, none⟩ = some (.slice fs[i].q.1 fs[i].q.2.1 fs[i].q.2.2) := ok.blk.cell 0
      by_cases hbad : n < 0 ∨ n > fs[i].data.length
      · have hs : cutA (fs.map FE.ab) false nm n = (1, fs.map FE.ab) := by unfold cutA; rw [if_neg (by decide), k3]; simp only; rw [if_pos hbad]
        rw [hs]
        refine ⟨w, g32_call ?_, h, Chg.refl _ _⟩
        by_cases hn : n < 0
        · unfold g32
          simp only [e, h00, hn, Option.bind_some, asP_pointer, asB_bool, asI_int, asS_string, asSl_slice, asM_map, asTup0, asTup1, asTup2, asTup3, asTup4, asTup5, getD0, getD1, getD2, getD3, getD4, Bool.not_true, Bool.not_false, Bool.false_eq_true, Bool.true_eq_false, ↓reduceIte, decide_true, decide_false, Option.isNone_some, Option.isNone_none, Option.isSome_some, Option.isSome_none, beq_self_eq_true, bne_self_eq_false, Bool.and_true, Bool.true_and, Bool.and_false, Bool.false_and, not_true_eq_false, not_false_eq_true]
        · have hg : n > (fs[i].q.2.1 : Int) := by omega
          unfold g32
          simp only [e, h00, hn, c0, hg, Option.bind_some, asP_pointer, asB_bool, asI_int, asS_string, asSl_slice, asM_map, asTup0, asTup1, asTup2, asTup3, asTup4, asTup5, getD0, getD1, getD2, getD3, getD4, Bool.not_true, Bool.not_false, Bool.false_eq_true, Bool.true_eq_false, ↓reduceIte, decide_true, decide_false, Option.isNone_some, Option.isNone_none, Option.isSome_some, Option.isSome_none, beq_self_eq_true, bne_self_eq_false, Bool.and_true, Bool.true_and, Bool.and_false, Bool.false_and, not_true_eq_false, not_false_eq_true]
      · obtain ⟨m, rfl⟩ := Int.eq_ofNat_of_zero_le (show 0 ≤ n by omega)
        have hm : m ≤ fs[i].data.length := by omega
        have hs : cutA (fs.map FE.ab) false nm (m : Int) = (0, kups (fs.map FE.ab) nm (cutF m)) := by unfold cutA; rw [if_neg (by decide), k3]; simp only; rw [if_neg hbad]; rfl
        have hn : ¬ (m : Int) < 0 := by omega
        have hg : ¬ (m : Int) > (fs[i].q.2.1 : Int) := by omega
        have f0 : Fr [] w w.drew := Fr.drew _ _
        have c3 : w.drew.cell? ⟨b, 3, none⟩ = some (.int .i64 ((used (fs.map FE.ab) : Nat) : Int)) := h2.drew.cell 3
        have c0d : w.drew.cell? ⟨fs[i].fb, 0, none⟩ = some (.slice fs[i].q.1 fs[i].q.2.1 fs[i].q.2.2) := ok.blk.drew.cell 0
        have hw1 : IntKind.i64.wrap ((fs[i].q.2.1 : Int) - (m : Int)) = ((fs[i].q.2.1 - m : Nat) : Int) := by rw [wrap_i64 (by omega) (by omega)]; omega
        have hw2 : IntKind.i64.wrap (((used (fs.map FE.ab) : Nat) : Int) - ((fs[i].q.2.1 - m : Nat) : Int)) = ((used (fs.map FE.ab) - (fs[i].q.2.1 - m) : Nat) : Int) := by rw [wrap_i64 (by omega) (by omega)]; omega
        generalize hU : used (fs.map FE.ab) - (fs[i].q.2.1 - m) = U at hw2
        have t1 : st1 w.drew ⟨b, 3, none⟩ (.int .i64 (U : Int)) = some (w.drew.setCell ⟨b, 3, none⟩ (.int .i64 (U : Int))) := h2.drew.st1 (by simp) rfl
        have f1 : Fr [b] w.drew (w.drew.setCell ⟨b, 3, none⟩ (.int .i64 (U : Int))) := Fr.setCell
        have hb1 := h2.drew.set 3 (.int .i64 (U : Int))
        simp only [List.set_cons_succ, List.set_cons_zero] at hb1
        have nb : b ≠ fs[i].fb := h2.ne ok.blk (by decide)
        have nbq : b ∉ blkOf fs[i].q := h2.notin ok.own (by decide)
        have kk1 := ok.blk.drew.fr f1 (by simpa using nb.symm)
        have o1 := ok.own.drew.fr f1 (by intro y hy hm; simp at hm; subst hm; exact nbq hy)
        generalize w.drew.setCell ⟨b, 3, none⟩ (.int .i64 (U : Int)) = w1 at t1 f1 hb1 kk1 o1
        have d0 : w1.cell? ⟨fs[i].fb, 0, none⟩ = some (.slice fs[i].q.1 fs[i].q.2.1 fs[i].q.2.2) := kk1.cell 0
        have hle := ok.own.le
        have es := slc3 (u := fs[i].q) (j := m) (by omega)
        have t2 : st1 w1 ⟨fs[i].fb, 0, none⟩ (.slice fs[i].q.1 m m) = some (w1.setCell ⟨fs[i].fb, 0, none⟩ (.slice fs[i].q.1 m m)) := kk1.st1 (by simp) rfl
        have f2 : Fr [fs[i].fb] w1 (w1.setCell ⟨fs[i].fb, 0, none⟩ (.slice fs[i].q.1 m m)) := Fr.setCell
        have kk2 := kk1.set 0 (.slice fs[i].q.1 m m)
        simp only [List.set_cons_zero] at kk2
        have hb2 := hb1.fr f2 (by simpa using nb)
        have nf : fs[i].fb ∉ blkOf fs[i].q := ok.apart ok
        have o2 := o1.fr f2 (by intro y hy hm; simp at hm; subst hm; exact nf hy)
        generalize w1.setCell ⟨fs[i].fb, 0, none⟩ (.slice fs[i].q.1 m m) = w2 at t2 f2 kk2 hb2 o2
        have d1 : w2.cell? ⟨fs[i].fb, 1, none⟩ = some (.int .i64 (fs[i].syn : Int)) := kk2.cell 1
        have hmin : (if (m : Int) < (fs[i].syn : Int) then (m : Int) else (fs[i].syn : Int)) = ((min fs[i].syn m : Nat) : Int) := by split <;> omega
        have t3 : st1 w2 ⟨fs[i].fb, 1, none⟩ (.int .i64 ((min fs[i].syn m : Nat) : Int)) = some (w2.setCell ⟨fs[i].fb, 1, none⟩ (.int .i64 ((min fs[i].syn m : Nat) : Int))) := kk2.st1 (by simp) rfl
        have f3 : Fr [fs[i].fb] w2 (w2.setCell ⟨fs[i].fb, 1, none⟩ (.int .i64 ((min fs[i].syn m : Nat) : Int))) := Fr.setCell
        have kk3 := kk2.set 1 (.int .i64 ((min fs[i].syn m : Nat) : Int))
        simp only [List.set_cons_succ, List.set_cons_zero] at kk3
        have hb3 := hb2.fr f3 (by simpa using nb)
        have o3 := o2.fr f3 (by intro y hy hm; simp at hm; subst hm; exact nf hy)
        have o4 := Own.cut o3 (j := m) (by omega)
        rw [← List.map_take] at o4
        have F : Fr [b, fs[i].fb] w (w2.setCell ⟨fs[i].fb, 1, none⟩ (.int .i64 ((min fs[i].syn m : Nat) : Int))) := (Fr.mono (Fr.app (Fr.app (Fr.app f0 f1) f2) f3) (by have z0_ := Fr.size f0; have z1_ := Fr.size f1; have z2_ := Fr.size f2; have z3_ := Fr.size f3; intro y_ hy_ hl_; grind [blkOf]))
        have hus2 := used_set hi (fs[i].data.take m) (min fs[i].syn m) fs[i].name
        rw [List.length_take] at hus2
        have hUu : used ((fs.map FE.ab).set i (fs[i].name, fs[i].data.take m, min fs[i].syn m)) = U := by omega
        obtain ⟨d, c⟩ := dk_put (f := ⟨fs[i].name, fs[i].fb, (fs[i].q.1, m, m), fs[i].data.take m, min fs[i].syn m⟩) hi rfl rfl h2 h3 h4 h5 h.db h.lt F (by intro y hy; simp at hy; rcases hy with hy | hy <;> simp [hy]) (fun _ => id) (fun y hy => .inl hy) (fuse' := fuse) (dead' := false)
          (by simp only [FE.ab]; rw [hUu]; exact hb3)
          ⟨kk3, o4, zs_take ok.zs m, by show min fs[i].syn m ≤ (fs[i].data.take m).length; rw [List.length_take]; have := ok.syn; omega, ok.reg⟩
          (fun y hy => .inl hy) h.fuse (by simp only [FE.ab]; omega) (by have := h.len; simpa using this)
        have hset : kups (fs.map FE.ab) nm (cutF m) = (fs.map FE.ab).set i (FE.ab ⟨fs[i].name, fs[i].fb, (fs[i].q.1, m, m), fs[i].data.take m, min fs[i].syn m⟩) := by rw [k4, k1]; rfl
        rw [hs]
        refine ⟨_, g32_call ?_, by rw [hset]; exact d, c⟩
        unfold g32
        simp only [e, h00, hn, c0, hg, addr_add, Nat.zero_add, c3, c0d, hw1, hw2, t1, d0, es, t2, d1, hmin, t3, Option.bind_some, asP_pointer, asB_bool, asI_int, asS_string, asSl_slice, asM_map, asTup0, asTup1, asTup2, asTup3, asTup4, asTup5, getD0, getD1, getD2, getD3, getD4, Bool.not_true, Bool.not_false, Bool.false_eq_true, Bool.true_eq_false, ↓reduceIte, decide_true, decide_false, Option.isNone_some, Option.isNone_none, Option.isSome_some, Option.isSome_none, beq_self_eq_true, bne_self_eq_false, Bool.and_true, Bool.true_and, Bool.and_false, Bool.false_and, not_true_eq_false, not_false_eq_true]
    · have hs : cutA A false nm n = (4, A) := by unfold cutA; rw [if_neg (by decide), k1]
      rw [hs]
      refine ⟨w, g32_call ?_, h, Chg.refl _ _⟩
      unfold g32
      simp only [e, h40, Option.bind_some, asP_pointer, asB_bool, asI_int, asS_string, asSl_slice, asM_map, asTup0, asTup1, asTup2, asTup3, asTup4, asTup5, getD0, getD1, getD2, getD3, getD4, Bool.not_true, Bool.not_false, Bool.false_eq_true, Bool.true_eq_false, ↓reduceIte, decide_true, decide_false, Option.isNone_some, Option.isNone_none, Option.isSome_some, Option.isSome_none, beq_self_eq_true, bne_self_eq_false, Bool.and_true, Bool.true_and, Bool.and_false, Bool.false_and, not_true_eq_false, not_false_eq_true]
end
end Go.Proofs.Ytnflklkjjjlpaaa

namespace Go.Proofs.Ytnflklkjjjlpaaa
open Go Go.Ev
set_option maxRecDepth 100000
set_option linter.unusedVariables false
set_option linter.unusedSimpArgs false

/-- one file takes the place k -/
theorem Fs.place {w w' : World} {D D' : Nat → Prop} {fs : List FE} {S : List Nat} (h : Fs w D fs) {i : Nat} (hi : i < fs.length) {f : FE} (hf : Fr S w w')
    (hS : ∀ y ∈ S, ∀ j (hj : j < fs.length), j ≠ i → y ≠ fs[j].fb ∧ y ∉ blkOf fs[j].q) (hD : ∀ y, D y → D' y) (ok : FeOk w' D' f)
    (apf : ∀ j (hj : j < fs.length), j ≠ i → f.fb ≠ fs[j].fb ∧ f.name ≠ fs[j].name ∧ ∀ y ∈ blkOf f.q, y ∉ blkOf fs[j].q) : Fs w' D' (fs.set i f) := by
  refine ⟨fun j hj => ?_, fun j k hj hk hjk => ?_⟩
  · rw [List.length_set] at hj
    rw [List.getElem_set]
    split
    · exact ok
    · rename_i hne
      exact (h.ok j hj).fr hf (fun hm => (hS _ hm j hj (fun e => hne e.symm)).1 rfl) (fun y hy hm => (hS y hm j hj (fun e => hne e.symm)).2 hy) hD
  · rw [List.length_set] at hj hk
    rw [List.getElem_set, List.getElem_set]
    split
    · rename_i e1
      split
      · rename_i e2; omega
      · rename_i e2; exact apf k hk (fun e => e2 e.symm)
    · rename_i e1
      split
      · rename_i e2
        obtain ⟨a, b, c⟩ := apf j hj (fun e => e1 e.symm)
        exact ⟨a.symm, b.symm, fun y hy hm => c y hm hy⟩
      · exact h.ap j k hj hk hjk

section
variable {w : World} {D : Nat → Prop} {b : Nat} {A : List (ByteArray × FV)} {fuse : Int} {dead : Bool}

def removeA (A : List (ByteArray × FV)) (dead : Bool) (n : ByteArray) : Int × List (ByteArray × FV) :=
  if dead = true then (9, A) else match kget A n with | none => (4, A) | some _ => (0, kdel A n)

theorem del_map {r : Nat} {fs : List FE} (h : MapAt Value.string w r (keysOf fs)) (n : ByteArray) :
    ∃ w', callB Try.prog .delete #[58, 9] 0 #[false, false] #[.map (some r), .string n] w = some (.tuple #[], w') ∧ MapAt Value.string w' r (kdel (keysOf fs) n) ∧ Fr [r] w w' := by
  obtain ⟨w', e, m, f⟩ := callB_delete (P := Try.prog) (T := 58) (t2 := 9) (ty := 0) (cs := #[false, false]) Try.underlying58 Try.underlying9 rfl keyOk_str h n
  rw [delA_kdel] at m
  exact ⟨w', e, m, f⟩

theorem remove24 (h : Dk w D b A fuse dead) (n : ByteArray) : ∃ w', callF Try.prog 39 #[.pointer (some ⟨b, 0, none⟩), .string n] w = some (.int .i64 (removeA A dead n).1, w') ∧ Dk w' D b (removeA A dead n).2 fuse dead ∧ Chg D w w' D := by
  have h90 : ((9 : Int) == 0) = false := by decide
  have h40 : ((4 : Int) == 0) = false := by decide
  have h00 : ((0 : Int) == 0) = true := by decide
  cases dead with
  | true =>
    have e := find26_dead h n
    have : (removeA A true n) = (9, A) := by unfold removeA; rw [if_pos rfl]
    rw [this]
    refine ⟨w, g39_call ?_, h, Chg.refl _ _⟩
    unfold g39
    simp only [e, h90, Option.bind_some, asP_pointer, asB_bool, asI_int, asS_string, asSl_slice, asM_map, asTup0, asTup1, asTup2, asTup3, asTup4, asTup5, getD0, getD1, getD2, getD3, getD4, Bool.not_true, Bool.not_false, Bool.false_eq_true, Bool.true_eq_false, ↓reduceIte, decide_true, decide_false, Option.isNone_some, Option.isNone_none, Option.isSome_some, Option.isSome_none, beq_self_eq_true, bne_self_eq_false, Bool.and_true, Bool.true_and, Bool.and_false, Bool.false_and, not_true_eq_false, not_false_eq_true]
  | false =>
    obtain ⟨r, fs, h1, h2, h3, h4, h5, hc⟩ := find26 h n
    rcases hc with ⟨i, hi, k1, e, k3, k4, k5, k6⟩ | ⟨k1, e⟩
    · have hs : removeA A false n = (0, kdel A n) := by unfold removeA; rw [if_neg (by decide), k3]
      have ok := h4.ok i hi
      have hug := used_get hi
      have hus := h.used
      have hue := used_erase hi
      subst h1
      have hol := ok.own.len
      simp only [List.length_map, Nat.mul_one] at hol
      have f0 : Fr [] w w.drew := Fr.drew _ _
      have c3 : w.drew.cell? ⟨b, 3, none⟩ = some (.int .i64 ((used (fs.map FE.ab) : Nat) : Int)) := h2.drew.cell 3
      have c0d : w.drew.cell? ⟨fs[i].fb, 0, none⟩ = some (.slice fs[i].q.1 fs[i].q.2.1 fs[i].q.2.2) := ok.blk.drew.cell 0
      have hw2 : IntKind.i64.wrap (((used (fs.map FE.ab) : Nat) : Int) - (fs[i].q.2.1 : Int)) = ((used ((fs.eraseIdx i).map FE.ab) : Nat) : Int) := by rw [wrap_i64 (by omega) (by omega)]; omega
      generalize hU : used ((fs.eraseIdx i).map FE.ab) = U at hw2 hue
      have t1 : st1 w.drew ⟨b, 3, none⟩ (.int .i64 (U : Int)) = some (w.drew.setCell ⟨b, 3, none⟩ (.int .i64 (U : Int))) := h2.drew.st1 (by simp) rfl
      have f1 : Fr [b] w.drew (w.drew.setCell ⟨b, 3, none⟩ (.int .i64 (U : Int))) := Fr.setCell
      have hb1 := h2.drew.set 3 (.int .i64 (U : Int))
      simp only [List.set_cons_succ, List.set_cons_zero] at hb1
      have rb : r ≠ b := h3.ne_blk h2
      have m1 := h3.drew.fr f1 (by simpa using rb)
      generalize w.drew.setCell ⟨b, 3, none⟩ (.int .i64 (U : Int)) = w1 at t1 f1 hb1 m1
      have d0 : w1.cell? ⟨b, 0, none⟩ = some (.map (some r)) := hb1.cell 0
      obtain ⟨w2, e2, m2, f2⟩ := del_map m1 n
      rw [k5] at m2
      have hb2 := hb1.fr f2 (by simpa using rb.symm)
      have F : Fr [b, r] w w2 := (Fr.mono (Fr.app (Fr.app f0 f1) f2) (by have z0_ := Fr.size f0; have z1_ := Fr.size f1; have z2_ := Fr.size f2; intro y_ hy_ hl_; grind [blkOf]))
      have hfs2 : Fs w2 D fs := h4.fr F (by
        intro y hy j hj
        simp at hy
        rcases hy with hy | hy
        · subst hy; exact ⟨h2.ne (h4.ok j hj).blk (by decide), h2.notin (h4.ok j hj).own (by decide)⟩
        · subst hy; exact ⟨h3.ne_blk (h4.ok j hj).blk, h3.notin (h4.ok j hj).own⟩) (fun _ => id)
      rw [hs]
      refine ⟨w2, g39_call ?_, ⟨⟨r, fs.eraseIdx i, k6, ?_, m2, hfs2.erase i, h5⟩, h.db, ?_, h.fuse, ?_, ?_⟩, Chg.of_fr F ?_⟩
      · unfold g39
        simp only [e, h00, addr_add, Nat.zero_add, c3, c0d, hw2, t1, d0, e2, Option.bind_some, asP_pointer, asB_bool, asI_int, asS_string, asSl_slice, asM_map, asTup0, asTup1, asTup2, asTup3, asTup4, asTup5, getD0, getD1, getD2, getD3, getD4, Bool.not_true, Bool.not_false, Bool.false_eq_true, Bool.true_eq_false, ↓reduceIte, decide_true, decide_false, Option.isNone_some, Option.isNone_none, Option.isSome_some, Option.isSome_none, beq_self_eq_true, bne_self_eq_false, Bool.and_true, Bool.true_and, Bool.and_false, Bool.false_and, not_true_eq_false, not_false_eq_true]
      · show Blk w2 b [.map (some r), .int .i64 fuse, .bool false, .int .i64 ((used (kdel (fs.map FE.ab) n) : Nat) : Int)] 60
        rw [k6, hU]; exact hb2
      · intro y hy; have := h.lt y hy; have := F.size; omega
      · show used (kdel (fs.map FE.ab) n) ≤ 4194304
        rw [k6, hU]; omega
      · show (kdel (fs.map FE.ab) n).length ≤ 4096
        have := (kdel_sub (fs.map FE.ab) n).length_le; have := h.len; omega
      · intro y hy _; simp at hy; rcases hy with hy | hy <;> subst hy
        · exact h.db
        · exact h5
    · have hs : removeA A false n = (4, A) := by unfold removeA; rw [if_neg (by decide), k1]
      rw [hs]
      refine ⟨w, g39_call ?_, h, Chg.refl _ _⟩
      unfold g39
      simp only [e, h40, Option.bind_some, asP_pointer, asB_bool, asI_int, asS_string, asSl_slice, asM_map, asTup0, asTup1, asTup2, asTup3, asTup4, asTup5, getD0, getD1, getD2, getD3, getD4, Bool.not_true, Bool.not_false, Bool.false_eq_true, Bool.true_eq_false, ↓reduceIte, decide_true, decide_false, Option.isNone_some, Option.isNone_none, Option.isSome_some, Option.isSome_none, beq_self_eq_true, bne_self_eq_false, Bool.and_true, Bool.true_and, Bool.and_false, Bool.false_and, not_true_eq_false, not_false_eq_true]

def armA (fuse : Int) (dead : Bool) (n : Int) : Int := if dead = true then fuse else if n < -1 then -1 else n

theorem arm11 (h : Dk w D b A fuse dead) {n : Int} (hn : n ≤ 9223372036854775807) : ∃ w', callF Try.prog 26 #[.pointer (some ⟨b, 0, none⟩), .int .i64 n] w = some (.tuple #[], w') ∧ Dk w' D b A (armA fuse dead n) dead ∧ Chg D w w' D := by
  obtain ⟨r, fs, h1, h2, h3, h4, h5⟩ := h.ex
  have c2 : w.cell? ⟨b, 2, none⟩ = some (.bool dead) := h2.cell 2
  cases dead with
  | true =>
    have ha : armA fuse true n = fuse := by unfold armA; rw [if_pos rfl]
    rw [ha]
    refine ⟨w, g26_call ?_, h, Chg.refl _ _⟩
    unfold g26
    simp only [addr_add, Nat.zero_add, c2, Option.bind_some, asP_pointer, asB_bool, asI_int, asS_string, asSl_slice, asM_map, asTup0, asTup1, asTup2, asTup3, asTup4, asTup5, getD0, getD1, getD2, getD3, getD4, Bool.not_true, Bool.not_false, Bool.false_eq_true, Bool.true_eq_false, ↓reduceIte, decide_true, decide_false, Option.isNone_some, Option.isNone_none, Option.isSome_some, Option.isSome_none, beq_self_eq_true, bne_self_eq_false, Bool.and_true, Bool.true_and, Bool.and_false, Bool.false_and, not_true_eq_false, not_false_eq_true]
  | false =>
    have ha : (if (-1 : Int) > n then -1 else n) = armA fuse false n := by unfold armA; simp only [Bool.false_eq_true, if_false]
    have hr : -1 ≤ armA fuse false n ∧ armA fuse false n ≤ 9223372036854775807 := by rw [← ha]; split <;> omega
    generalize armA fuse false n = v at ha hr
    have t1 : st1 w ⟨b, 1, none⟩ (.int .i64 v) = some (w.setCell ⟨b, 1, none⟩ (.int .i64 v)) := h2.st1 (by simp) rfl
    have f1 : Fr [b] w (w.setCell ⟨b, 1, none⟩ (.int .i64 v)) := Fr.setCell
    have hb1 := h2.set 1 (.int .i64 v)
    simp only [List.set_cons_succ, List.set_cons_zero] at hb1
    have rb : r ≠ b := h3.ne_blk h2
    refine ⟨_, g26_call ?_, ⟨⟨r, fs, h1, hb1, h3.fr f1 (by simpa using rb), h4.fr f1 (by intro y hy j hj; simp at hy; subst hy; exact ⟨h2.ne (h4.ok j hj).blk (by decide), h2.notin (h4.ok j hj).own (by decide)⟩) (fun _ => id), h5⟩, h.db, ?_, hr, h.used, h.len⟩, Chg.of_fr f1 (by intro y hy _; simp at hy; subst hy; exact h.db)⟩
    · unfold g26
      simp only [addr_add, Nat.zero_add, c2, ha, t1, Option.bind_some, asP_pointer, asB_bool, asI_int, asS_string, asSl_slice, asM_map, asTup0, asTup1, asTup2, asTup3, asTup4, asTup5, getD0, getD1, getD2, getD3, getD4, Bool.not_true, Bool.not_false, Bool.false_eq_true, Bool.true_eq_false, ↓reduceIte, decide_true, decide_false, Option.isNone_some, Option.isNone_none, Option.isSome_some, Option.isSome_none, beq_self_eq_true, bne_self_eq_false, Bool.and_true, Bool.true_and, Bool.and_false, Bool.false_and, not_true_eq_false, not_false_eq_true]
    · intro y hy; have := h.lt y hy; have := f1.size; omega

theorem dead12 (h : Dk w D b A fuse dead) : callF Try.prog 28 #[.pointer (some ⟨b, 0, none⟩)] w = some (.bool dead, w) := by
  obtain ⟨r, fs, h1, h2, h3, h4, h5⟩ := h.ex
  have c2 : w.cell? ⟨b, 2, none⟩ = some (.bool dead) := h2.cell 2
  refine g28_call ?_
  unfold g28
  simp only [addr_add, Nat.zero_add, c2, Option.bind_some, asP_pointer, asB_bool, asI_int, asS_string, asSl_slice, asM_map, asTup0, asTup1, asTup2, asTup3, asTup4, asTup5, getD0, getD1, getD2, getD3, getD4, Bool.not_true, Bool.not_false, Bool.false_eq_true, Bool.true_eq_false, ↓reduceIte, decide_true, decide_false, Option.isNone_some, Option.isNone_none, Option.isSome_some, Option.isSome_none, beq_self_eq_true, bne_self_eq_false, Bool.and_true, Bool.true_and, Bool.and_false, Bool.false_and, not_true_eq_false, not_false_eq_true]

def renF (v : FV) (_ : Option FV) : FV := (v.1, v.1.length)
def renameA (A : List (ByteArray × FV)) (dead : Bool) (n t : ByteArray) : Int × List (ByteArray × FV) :=
  if dead = true then (9, A) else match kget A n with
  | none => (4, A)
  | some v => if t.size = 0 ∨ t.size > 24 then (1, A) else if n = t then (0, A) else (0, kups (kdel A n) t (renF v))

/-- insA at a place -/
theorem insA_kups {K : Type} [DecidableEq K] (l : List (K × Value)) (k : K) (v : Value) : insA l k v = kups l k (fun _ => v) := by
  induction l with
  | nil => rfl
  | cons e l ih => simp only [insA, kups, ih]

/-- the last part of Rename: the name goes, the other one comes -/
theorem tail6 {r : Nat} {fs : List FE} {U : Nat} (hb : Blk w b [.map (some r), .int .i64 fuse, .bool false, .int .i64 (U : Int)] 60) (hm : MapAt Value.string w r (keysOf fs)) (hfs : Fs w D fs) (hDr : D r) (hDb : D b)
    (hlt : ∀ y, D y → y < w.heap.size) (hfuse : -1 ≤ fuse ∧ fuse ≤ 9223372036854775807) (hlen : fs.length ≤ 4096) {i : Nat} (hi : i < fs.length) {n t : ByteArray} (hn : fs[i].name = n) (hnt : n ≠ t)
    (hU : U = used (kups (kdel (fs.map FE.ab) n) t (renF (fs[i].data, fs[i].syn)))) (hUl : U ≤ 4194304) :
    ∃ w', g40_j6 (some ⟨b, 0, none⟩) n t (some ⟨fs[i].fb, 0, none⟩) w = some (.int .i64 0, w') ∧ Dk w' D b (kups (kdel (fs.map FE.ab) n) t (renF (fs[i].data, fs[i].syn))) fuse false ∧ Chg D w w' D := by
  have ok := hfs.ok i hi
  have hol := ok.own.len
  simp only [List.length_map, Nat.mul_one] at hol
  have rb : r ≠ b := hm.ne_blk hb
  have rf : r ≠ fs[i].fb := hm.ne_blk ok.blk
  have nb : b ≠ fs[i].fb := hb.ne ok.blk (by decide)
  have nf : fs[i].fb ∉ blkOf fs[i].q := ok.apart ok
  have rq : r ∉ blkOf fs[i].q := hm.notin ok.own
  have c0 : w.cell? ⟨b, 0, none⟩ = some (.map (some r)) := hb.cell 0
  obtain ⟨w1, e1, m1, f1⟩ := del_map hm n
  have hk : ∃ hkd : kdel (keysOf fs) n = keysOf (fs.eraseIdx i), kdel (fs.map FE.ab) n = (fs.eraseIdx i).map FE.ab := by
    rcases keysOf_get fs n with ⟨j, hj, k1, k2, k3, k4, k5, k6⟩ | ⟨k1, k2, k3, k4⟩
    · have : j = i := by
        rcases Nat.lt_trichotomy j i with h | h | h
        · exact absurd (k1.trans hn.symm) (hfs.ap j i hj hi (by omega)).2.1
        · exact h
        · exact absurd (k1.trans hn.symm) (hfs.ap j i hj hi (by omega)).2.1
      subst this; exact ⟨k5, k6⟩
    · exact absurd hn (k3 i hi)
  obtain ⟨hk1, hk2⟩ := hk
  rw [hk1] at m1
  have hb1 := hb.fr f1 (by simpa using rb.symm)
  have d0 : w1.cell? ⟨b, 0, none⟩ = some (.map (some r)) := hb1.cell 0
  obtain ⟨w2, e2, m2, f2⟩ := m1.upd keyOk_str t (.pointer (some ⟨fs[i].fb, 0, none⟩))
  rw [insA_kups] at m2
  have hb2 := hb1.fr f2 (by simpa using rb.symm)
  have F2 : Fr [r] w w2 := (Fr.mono (Fr.app f1 f2) (by have z0_ := Fr.size f1; have z1_ := Fr.size f2; intro y_ hy_ hl_; grind [blkOf]))
  have kk := ok.blk.fr F2 (by simpa using rf.symm)
  have oo := ok.own.fr F2 (by intro y hy hm; simp at hm; subst hm; exact rq hy)
  have d1 : w2.cell? ⟨fs[i].fb, 0, none⟩ = some (.slice fs[i].q.1 fs[i].q.2.1 fs[i].q.2.2) := kk.cell 0
  have t3 : st1 w2 ⟨fs[i].fb, 1, none⟩ (.int .i64 (fs[i].q.2.1 : Int)) = some (w2.setCell ⟨fs[i].fb, 1, none⟩ (.int .i64 (fs[i].q.2.1 : Int))) := kk.st1 (by simp) rfl
  have f3 : Fr [fs[i].fb] w2 (w2.setCell ⟨fs[i].fb, 1, none⟩ (.int .i64 (fs[i].q.2.1 : Int))) := Fr.setCell
  have kk3 := kk.set 1 (.int .i64 (fs[i].q.2.1 : Int))
  simp only [List.set_cons_succ, List.set_cons_zero] at kk3
  have hb3 := hb2.fr f3 (by simpa using nb)
  have m3 := m2.fr f3 (by simpa using rf)
  have o3 := oo.fr f3 (by intro y hy hm; simp at hm; subst hm; exact nf hy)
  generalize w2.setCell ⟨fs[i].fb, 1, none⟩ (.int .i64 (fs[i].q.2.1 : Int)) = w3 at t3 f3 kk3 hb3 m3 o3
  have F : Fr [r, fs[i].fb] w w3 := (Fr.mono (Fr.app (Fr.app f1 f2) f3) (by have z0_ := Fr.size f1; have z1_ := Fr.size f2; have z2_ := Fr.size f3; intro y_ hy_ hl_; grind [blkOf]))
  have hS : ∀ y ∈ [r, fs[i].fb], ∀ j (hj : j < (fs.eraseIdx i).length), y ≠ (fs.eraseIdx i)[j].fb ∧ y ∉ blkOf (fs.eraseIdx i)[j].q := by
    intro y hy j hj
    have hl := hj
    rw [List.length_eraseIdx] at hl
    obtain ⟨k, hk, hki, ek⟩ : ∃ k, ∃ hk : k < fs.length, k ≠ i ∧ (fs.eraseIdx i)[j] = fs[k] := by
      by_cases h1 : j < i
      · exact ⟨j, by split at hl <;> omega, by omega, by rw [List.getElem_eraseIdx, dif_pos h1]⟩
      · exact ⟨j + 1, by split at hl <;> omega, by omega, by rw [List.getElem_eraseIdx, dif_neg h1]⟩
    rw [ek]
    simp at hy
    rcases hy with hy | hy
    · subst hy; exact ⟨hm.ne_blk (hfs.ok k hk).blk, hm.notin (hfs.ok k hk).own⟩
    · subst hy; exact ⟨(hfs.ap i k hi hk hki.symm).1, ok.apart (hfs.ok k hk)⟩
  have apart : ∀ j (hj : j < (fs.eraseIdx i).length), fs[i].fb ≠ (fs.eraseIdx i)[j].fb ∧ ∀ y ∈ blkOf fs[i].q, y ∉ blkOf (fs.eraseIdx i)[j].q := by
    intro j hj
    have hl := hj
    rw [List.length_eraseIdx] at hl
    obtain ⟨k, hk, hki, ek⟩ : ∃ k, ∃ hk : k < fs.length, k ≠ i ∧ (fs.eraseIdx i)[j] = fs[k] := by
      by_cases h1 : j < i
      · exact ⟨j, by split at hl <;> omega, by omega, by rw [List.getElem_eraseIdx, dif_pos h1]⟩
      · exact ⟨j + 1, by split at hl <;> omega, by omega, by rw [List.getElem_eraseIdx, dif_neg h1]⟩
    rw [ek]
    have := hfs.ap i k hi hk hki.symm
    exact ⟨this.1, this.2.2⟩
  obtain ⟨f, hf⟩ : ∃ f : FE, f = ⟨t, fs[i].fb, fs[i].q, fs[i].data, fs[i].data.length⟩ := ⟨_, rfl⟩
  have okf : FeOk w3 D f := by
    subst hf
    exact ⟨by show Blk w3 fs[i].fb [.slice fs[i].q.1 fs[i].q.2.1 fs[i].q.2.2, .int .i64 (fs[i].data.length : Int)] 76; rw [hol]; exact kk3, o3, ok.zs, Nat.le_refl _, ok.reg⟩
  have her := hfs.erase i
  have hel : (fs.eraseIdx i).length ≤ fs.length := List.length_eraseIdx_le _ _
  have fin : ∀ gs : List FE, Fs w3 D gs → keysOf gs = kups (keysOf (fs.eraseIdx i)) t (fun _ => .pointer (some ⟨fs[i].fb, 0, none⟩)) → kups (kdel (fs.map FE.ab) n) t (renF (fs[i].data, fs[i].syn)) = gs.map FE.ab → gs.length ≤ 4096 →
      Dk w3 D b (kups (kdel (fs.map FE.ab) n) t (renF (fs[i].data, fs[i].syn))) fuse false ∧ Chg D w w3 D := by
    intro gs h1 h2 h3 h4
    refine ⟨⟨⟨r, gs, h3, by rw [← hU]; exact hb3, by rw [h2]; exact m3, h1, hDr⟩, hDb, ?_, hfuse, by rw [← hU]; exact hUl, by rw [h3]; simpa using h4⟩, Chg.of_fr F ?_⟩
    · intro y hy; have := hlt y hy; have := F.size; omega
    · intro y hy _; simp at hy; rcases hy with hy | hy <;> subst hy
      · exact hDr
      · exact ok.reg.1
  refine ⟨w3, ?_, ?_⟩
  · unfold g40_j6
    simp only [c0, e1, d0, e2, d1, addr_add, Nat.zero_add, t3, Option.bind_some, asP_pointer, asB_bool, asI_int, asS_string, asSl_slice, asM_map, asTup0, asTup1, asTup2, asTup3, asTup4, asTup5, getD0, getD1, getD2, getD3, getD4, Bool.not_true, Bool.not_false, Bool.false_eq_true, Bool.true_eq_false, ↓reduceIte, decide_true, decide_false, Option.isNone_some, Option.isNone_none, Option.isSome_some, Option.isSome_none, beq_self_eq_true, bne_self_eq_false, Bool.and_true, Bool.true_and, Bool.and_false, Bool.false_and, not_true_eq_false, not_false_eq_true]
  · rcases keysOf_get (fs.eraseIdx i) t with ⟨k, hk, k1, k2, k3, k4, k5, k6⟩ | ⟨k1, k2, k3, k4⟩
    · refine fin ((fs.eraseIdx i).set k f) ?_ ?_ ?_ (by rw [List.length_set]; omega)
      · refine her.place hk F (fun y hy j hj _ => hS y hy j hj) (fun _ => id) okf fun j hj hjk => ?_
        subst hf
        refine ⟨(apart j hj).1, ?_, (apart j hj).2⟩
        have := (her.ap k j hk hj (fun e => hjk e.symm)).2.1
        rw [k1] at this; exact this
      · have : ∀ (l : List (ByteArray × Value)) (t : ByteArray) (v : Value) (i : Nat) (hi : i < l.length), (∀ j (hj : j < l.length), l[j].1 = t → j = i) → l[i].1 = t → kups l t (fun _ => v) = l.set i (t, v) := by
          intro l t v i hi hu he
          rcases kcases l t with ⟨j, hj, g1, g2, g3, g4⟩ | ⟨g1, g2, g3, g4⟩
          · rw [g3, hu j hj g1]
          · exact absurd he (g2 i hi)
        rw [this (keysOf (fs.eraseIdx i)) t _ k (by simpa [keysOf] using hk) (by
          intro j hj he
          simp [keysOf] at he hj
          rcases Nat.lt_trichotomy j k with h | h | h
          · exact absurd (he.trans k1.symm) (her.ap j k hj hk (by omega)).2.1
          · exact h
          · exact absurd (he.trans k1.symm) (her.ap j k hj hk (by omega)).2.1) (by simpa [keysOf] using k1)]
        subst hf
        simp [keysOf, List.map_set]
      · rw [hk2, k4, List.map_set]; subst hf; rfl
    · refine fin (fs.eraseIdx i ++ [f]) ?_ ?_ ?_ (by have h9 : (fs.eraseIdx i).length = fs.length - 1 := (by rw [List.length_eraseIdx, if_pos hi]); simp only [List.length_append, List.length_cons, List.length_nil]; omega)
      · have h1 := her.fr F hS (fun _ => id)
        refine ⟨fun j hj => ?_, fun j k hj hk hjk => ?_⟩
        · rw [List.getElem_append]
          split
          · exact h1.ok j _
          · rename_i hlt
            have : j - (fs.eraseIdx i).length = 0 := by simp at hj; omega
            simp only [this, List.getElem_cons_zero]; exact okf
        · have apf : ∀ j (hj : j < (fs.eraseIdx i).length), f.fb ≠ (fs.eraseIdx i)[j].fb ∧ f.name ≠ (fs.eraseIdx i)[j].name ∧ ∀ y ∈ blkOf f.q, y ∉ blkOf (fs.eraseIdx i)[j].q := by
            intro j' hj'
            have a1 := apart j' hj'
            rw [hf]
            exact ⟨a1.1, (k3 j' hj').symm, a1.2⟩
          rw [List.getElem_append, List.getElem_append]
          simp only [List.length_append, List.length_cons, List.length_nil] at hj hk
          split
          · split
            · exact her.ap j k _ _ hjk
            · rename_i e1 e2
              have : k - (fs.eraseIdx i).length = 0 := by omega
              simp only [this, List.getElem_cons_zero]
              obtain ⟨a, b, c⟩ := apf j e1
              exact ⟨a.symm, b.symm, fun y hy hm => c y hm hy⟩
          · split
            · rename_i e1 e2
              have : j - (fs.eraseIdx i).length = 0 := by omega
              simp only [this, List.getElem_cons_zero]
              exact apf k e2
            · omega
      · rcases kcases (keysOf (fs.eraseIdx i)) t with ⟨j, hj, g1, g2, g3, g4⟩ | ⟨g1, g2, g3, g4⟩
        · have hj' : j < (fs.eraseIdx i).length := by simpa [keysOf] using hj
          have g1' : (fs.eraseIdx i)[j].name = t := by simpa [keysOf] using g1
          exact absurd g1' (k3 j hj')
        · rw [g3]; subst hf; simp [keysOf]
      · rw [hk2, k4]; subst hf; simp [FE.ab, renF]
end
end Go.Proofs.Ytnflklkjjjlpaaa

namespace Go.Proofs.Ytnflklkjjjlpaaa
open Go Go.Ev
set_option maxRecDepth 100000
set_option linter.unusedVariables false
set_option linter.unusedSimpArgs false

def lenO (o : Option FV) : Nat := match o with | none => 0 | some v => v.1.length
theorem used_kups (B : List (ByteArray × FV)) (t : ByteArray) (g : Option FV → FV) : used (kups B t g) + lenO (kget B t) = used B + (g (kget B t)).1.length := by
  induction B with
  | nil => simp [used, kups, kget_nil, lenO]
  | cons e B ih =>
    rw [kget_cons]
    by_cases h : t = e.1
    · simp only [kups, h, if_true, used, List.map_cons, List.sum_cons, lenO]; omega
    · simp only [kups, h, if_false, used, List.map_cons, List.sum_cons] at ih ⊢; omega
theorem used_kdel (B : List (ByteArray × FV)) (t : ByteArray) : used (kdel B t) + lenO (kget B t) = used B := by
  induction B with
  | nil => simp [used, kdel, kget_nil, lenO]
  | cons e B ih =>
    rw [kget_cons]
    by_cases h : t = e.1
    · simp only [kdel, h, if_true, used, List.map_cons, List.sum_cons, lenO]; omega
    · simp only [kdel, h, if_false, used, List.map_cons, List.sum_cons] at ih ⊢; omega

theorem Fs.one {w : World} {D : Nat → Prop} {fs : List FE} (h : Fs w D fs) : kone (fs.map FE.ab) := by
  unfold kone
  rw [List.Nodup, List.pairwise_iff_getElem]
  intro i j hi hj hij
  simp only [List.length_map] at hi hj
  simp only [List.getElem_map]
  exact (h.ap i j hi hj (by omega)).2.1

section
variable {w : World} {D : Nat → Prop} {b : Nat} {A : List (ByteArray × FV)} {fuse : Int} {dead : Bool}

theorem Dk.one (h : Dk w D b A fuse dead) : kone A := by
  obtain ⟨r, fs, h1, h2, h3, h4, h5⟩ := h.ex
  subst h1; exact h4.one

theorem rename19 (h : Dk w D b A fuse dead) (n t : ByteArray) : ∃ w', callF Try.prog 40 #[.pointer (some ⟨b, 0, none⟩), .string n, .string t] w = some (.int .i64 (renameA A dead n t).1, w') ∧ Dk w' D b (renameA A dead n t).2 fuse dead ∧ Chg D w w' D := by
  have h90 : ((9 : Int) != 0) = true := by decide
  have h40 : ((4 : Int) != 0) = true := by decide
  have h00 : ((0 : Int) != 0) = false := by decide
  cases dead with
  | true =>
    have e := find26_dead h n
    have : (renameA A true n t) = (9, A) := by unfold renameA; rw [if_pos rfl]
    rw [this]
    refine ⟨w, g40_call ?_, h, Chg.refl _ _⟩
    unfold g40
    simp only [e, h90, Option.bind_some, asP_pointer, asB_bool, asI_int, asS_string, asSl_slice, asM_map, asTup0, asTup1, asTup2, asTup3, asTup4, asTup5, getD0, getD1, getD2, getD3, getD4, Bool.not_true, Bool.not_false, Bool.false_eq_true, Bool.true_eq_false, ↓reduceIte, decide_true, decide_false, Option.isNone_some, Option.isNone_none, Option.isSome_some, Option.isSome_none, beq_self_eq_true, bne_self_eq_false, Bool.and_true, Bool.true_and, Bool.and_false, Bool.false_and, not_true_eq_false, not_false_eq_true]
  | false =>
    obtain ⟨r, fs, h1, h2, h3, h4, h5, hc⟩ := find26 h n
    rcases hc with ⟨i, hi, k1, e, k3, k4, k5, k6⟩ | ⟨k1, e⟩
    · by_cases hbad : t.size = 0 ∨ t.size > 24
      · have hs : renameA A false n t = (1, A) := by unfold renameA; rw [if_neg (by decide), k3]; simp only; rw [if_pos hbad]
        rw [hs]
        refine ⟨w, g40_call ?_, h, Chg.refl _ _⟩
        by_cases h0 : t.size = 0
        · have hst : (t.toList == (⟨#[]⟩ : ByteArray).toList) = true := by rw [str_empty]; simpa using h0
          unfold g40
          simp only [e, h00, hst, Option.bind_some, asP_pointer, asB_bool, asI_int, asS_string, asSl_slice, asM_map, asTup0, asTup1, asTup2, asTup3, asTup4, asTup5, getD0, getD1, getD2, getD3, getD4, Bool.not_true, Bool.not_false, Bool.false_eq_true, Bool.true_eq_false, ↓reduceIte, decide_true, decide_false, Option.isNone_some, Option.isNone_none, Option.isSome_some, Option.isSome_none, beq_self_eq_true, bne_self_eq_false, Bool.and_true, Bool.true_and, Bool.and_false, Bool.false_and, not_true_eq_false, not_false_eq_true]
        · have hst : (t.toList == (⟨#[]⟩ : ByteArray).toList) = false := by rw [str_empty]; simpa using h0
          have hg : (t.size : Int) > 24 := by omega
          unfold g40
          simp only [e, h00, hst, hg, Option.bind_some, asP_pointer, asB_bool, asI_int, asS_string, asSl_slice, asM_map, asTup0, asTup1, asTup2, asTup3, asTup4, asTup5, getD0, getD1, getD2, getD3, getD4, Bool.not_true, Bool.not_false, Bool.false_eq_true, Bool.true_eq_false, ↓reduceIte, decide_true, decide_false, Option.isNone_some, Option.isNone_none, Option.isSome_some, Option.isSome_none, beq_self_eq_true, bne_self_eq_false, Bool.and_true, Bool.true_and, Bool.and_false, Bool.false_and, not_true_eq_false, not_false_eq_true]
      · have h0 : ¬ t.size = 0 := by omega
        have hst : (t.toList == (⟨#[]⟩ : ByteArray).toList) = false := by rw [str_empty]; simpa using h0
        have hg : ¬ (t.size : Int) > 24 := by omega
        by_cases hnt : n = t
        · have hs : renameA A false n t = (0, A) := by unfold renameA; rw [if_neg (by decide), k3]; simp only; rw [if_neg hbad, if_pos hnt]
          rw [hs]
          refine ⟨w, g40_call ?_, h, Chg.refl _ _⟩
          have hq : (n.toList == t.toList) = true := by rw [str_eq]; simpa using hnt
          unfold g40
          simp only [e, h00, hst, hg, hq, Option.bind_some, asP_pointer, asB_bool, asI_int, asS_string, asSl_slice, asM_map, asTup0, asTup1, asTup2, asTup3, asTup4, asTup5, getD0, getD1, getD2, getD3, getD4, Bool.not_true, Bool.not_false, Bool.false_eq_true, Bool.true_eq_false, ↓reduceIte, decide_true, decide_false, Option.isNone_some, Option.isNone_none, Option.isSome_some, Option.isSome_none, beq_self_eq_true, bne_self_eq_false, Bool.and_true, Bool.true_and, Bool.and_false, Bool.false_and, not_true_eq_false, not_false_eq_true]
        · have hs : renameA A false n t = (0, kups (kdel A n) t (renF (fs[i].data, fs[i].syn))) := by unfold renameA; rw [if_neg (by decide), k3]; simp only; rw [if_neg hbad, if_neg hnt]
          rw [hs]
          have hq : (n.toList == t.toList) = false := by rw [str_eq]; simpa using hnt
          have hus := h.used
          have hone := h.one
          have c0 : w.cell? ⟨b, 0, none⟩ = some (.map (some r)) := h2.cell 0
          have lk := look_ptr h3 t
          have u1 := used_kups (kdel A n) t (renF (fs[i].data, fs[i].syn))
          have u2 := used_kdel A n
          rw [kget_del hone, if_neg (fun e => hnt e.symm)] at u1
          rw [k3] at u2
          simp only [lenO, renF] at u1 u2
          subst h1
          rcases keysOf_get fs t with ⟨k, hk, g1, g2, g3, g4, g5, g6⟩ | ⟨g1, g2, g3, g4⟩
          · rw [g2] at lk
            rw [g3] at u1
            simp only at u1
            have okk := h4.ok k hk
            have hol := okk.own.len
            simp only [List.length_map, Nat.mul_one] at hol
            have f0 : Fr [] w w.drew := Fr.drew _ _
            have c3 : w.drew.cell? ⟨b, 3, none⟩ = some (.int .i64 ((used (fs.map FE.ab) : Nat) : Int)) := h2.drew.cell 3
            have c0d : w.drew.cell? ⟨fs[k].fb, 0, none⟩ = some (.slice fs[k].q.1 fs[k].q.2.1 fs[k].q.2.2) := okk.blk.drew.cell 0
            have hug := used_get hk
            have hw2 : IntKind.i64.wrap (((used (fs.map FE.ab) : Nat) : Int) - (fs[k].q.2.1 : Int)) = ((used (kups (kdel (fs.map FE.ab) n) t (renF (fs[i].data, fs[i].syn))) : Nat) : Int) := by rw [wrap_i64 (by omega) (by omega)]; omega
            obtain ⟨U, hU⟩ : ∃ U, used (kups (kdel (fs.map FE.ab) n) t (renF (fs[i].data, fs[i].syn))) = U := ⟨_, rfl⟩
            rw [hU] at hw2
            have t1 : st1 w.drew ⟨b, 3, none⟩ (.int .i64 (U : Int)) = some (w.drew.setCell ⟨b, 3, none⟩ (.int .i64 (U : Int))) := h2.drew.st1 (by simp) rfl
            have f1 : Fr [b] w.drew (w.drew.setCell ⟨b, 3, none⟩ (.int .i64 (U : Int))) := Fr.setCell
            have hb1 := h2.drew.set 3 (.int .i64 (U : Int))
            simp only [List.set_cons_succ, List.set_cons_zero] at hb1
            have rb : r ≠ b := h3.ne_blk h2
            have m1 := h3.drew.fr f1 (by simpa using rb)
            have F1 : Fr [b] w (w.drew.setCell ⟨b, 3, none⟩ (.int .i64 (U : Int))) := (Fr.mono (Fr.app f0 f1) (by have z0_ := Fr.size f0; have z1_ := Fr.size f1; intro y_ hy_ hl_; grind [blkOf]))
            have fs1 := h4.fr F1 (by intro y hy j hj; simp at hy; subst hy; exact ⟨h2.ne (h4.ok j hj).blk (by decide), h2.notin (h4.ok j hj).own (by decide)⟩) (fun _ => id)
            obtain ⟨w', e6, d, c⟩ := tail6 (t := t) hb1 m1 fs1 h5 h.db (by intro y hy; have := h.lt y hy; have := F1.size; omega) h.fuse (by have := h.len; simpa using this) hi k1 hnt hU.symm (by omega)
            refine ⟨w', g40_call ?_, d, Chg.trans (Chg.of_fr F1 (by intro y hy _; simp at hy; subst hy; exact h.db)) c h.lt⟩
            unfold g40
            simp only [e, h00, hst, hg, hq, c0, lk, Option.getD_some, addr_add, Nat.zero_add, c3, c0d, hw2, t1, e6, Option.bind_some, asP_pointer, asB_bool, asI_int, asS_string, asSl_slice, asM_map, asTup0, asTup1, asTup2, asTup3, asTup4, asTup5, getD0, getD1, getD2, getD3, getD4, Bool.not_true, Bool.not_false, Bool.false_eq_true, Bool.true_eq_false, ↓reduceIte, decide_true, decide_false, Option.isNone_some, Option.isNone_none, Option.isSome_some, Option.isSome_none, beq_self_eq_true, bne_self_eq_false, Bool.and_true, Bool.true_and, Bool.and_false, Bool.false_and, not_true_eq_false, not_false_eq_true]
          · rw [g1] at lk
            rw [g2] at u1
            simp only at u1
            have hbu : Blk w b [.map (some r), .int .i64 fuse, .bool false, .int .i64 ((used (kups (kdel (fs.map FE.ab) n) t (renF (fs[i].data, fs[i].syn))) : Nat) : Int)] 60 := by
              have : ((used (kups (kdel (fs.map FE.ab) n) t (renF (fs[i].data, fs[i].syn))) : Nat) : Int) = ((used (fs.map FE.ab) : Nat) : Int) := by omega
              rw [this]; exact h2
            obtain ⟨w', e6, d, c⟩ := tail6 (t := t) hbu h3 h4 h5 h.db h.lt h.fuse (by have := h.len; simpa using this) hi k1 hnt rfl (by omega)
            refine ⟨w', g40_call ?_, d, c⟩
            unfold g40
            simp only [e, h00, hst, hg, hq, c0, lk, Option.getD_none, e6, Option.bind_some, asP_pointer, asB_bool, asI_int, asS_string, asSl_slice, asM_map, asTup0, asTup1, asTup2, asTup3, asTup4, asTup5, getD0, getD1, getD2, getD3, getD4, Bool.not_true, Bool.not_false, Bool.false_eq_true, Bool.true_eq_false, ↓reduceIte, decide_true, decide_false, Option.isNone_some, Option.isNone_none, Option.isSome_some, Option.isSome_none, beq_self_eq_true, bne_self_eq_false, Bool.and_true, Bool.true_and, Bool.and_false, Bool.false_and, not_true_eq_false, not_false_eq_true]
    · have hs : renameA A false n t = (4, A) := by unfold renameA; rw [if_neg (by decide), k1]
      rw [hs]
      refine ⟨w, g40_call ?_, h, Chg.refl _ _⟩
      unfold g40
      simp only [e, h40, Option.bind_some, asP_pointer, asB_bool, asI_int, asS_string, asSl_slice, asM_map, asTup0, asTup1, asTup2, asTup3, asTup4, asTup5, getD0, getD1, getD2, getD3, getD4, Bool.not_true, Bool.not_false, Bool.false_eq_true, Bool.true_eq_false, ↓reduceIte, decide_true, decide_false, Option.isNone_some, Option.isNone_none, Option.isSome_some, Option.isSome_none, beq_self_eq_true, bne_self_eq_false, Bool.and_true, Bool.true_and, Bool.and_false, Bool.false_and, not_true_eq_false, not_false_eq_true]

/-! ## a crash -/
/-- how many bytes a crash leaves -/
def leftN (keep : Int) (v : FV) : Nat := v.2 + (keep % 18446744073709551616).toNat % (v.1.length - v.2 + 1)
def crashV (keep : Int) (v : FV) : FV := (v.1.take (leftN keep v), leftN keep v)
def crashE (keep : Int) (f : FE) : FE := ⟨f.name, f.fb, (f.q.1, leftN keep (f.data, f.syn), leftN keep (f.data, f.syn)), f.data.take (leftN keep (f.data, f.syn)), leftN keep (f.data, f.syn)⟩
def crashA (keep : Int) (A : List (ByteArray × FV)) : List (ByteArray × FV) := A.map fun e => (e.1, crashV keep e.2)

theorem leftN_le (keep : Int) {v : FV} (h : v.2 ≤ v.1.length) : v.2 ≤ leftN keep v ∧ leftN keep v ≤ v.1.length := by
  have := Nat.mod_lt (keep % 18446744073709551616).toNat (show 0 < v.1.length - v.2 + 1 by omega)
  unfold leftN; omega

/-- the files, those at the places vis crashed -/
def fsv (keep : Int) (fs : List FE) (vis : List Nat) : List FE := fs.mapIdx fun i f => if i ∈ vis then crashE keep f else f

theorem fsv_length {keep : Int} {fs : List FE} {vis : List Nat} : (fsv keep fs vis).length = fs.length := by simp [fsv]
theorem fsv_get {keep : Int} {fs : List FE} {vis : List Nat} {i : Nat} (h : i < (fsv keep fs vis).length) (h' : i < fs.length) : (fsv keep fs vis)[i] = if i ∈ vis then crashE keep fs[i] else fs[i] := by simp [fsv]
theorem fsv_nil {keep : Int} {fs : List FE} : fsv keep fs [] = fs := by
  apply List.ext_getElem
  · simp [fsv]
  · intro i h1 h2; simp [fsv]
theorem fsv_all {keep : Int} {fs : List FE} {vis : List Nat} (h : ∀ i, i < fs.length → i ∈ vis) : fsv keep fs vis = fs.map (crashE keep) := by
  apply List.ext_getElem
  · simp [fsv]
  · intro i h1 h2
    have : i < fs.length := by simpa [fsv] using h1
    simp [fsv, h i this]
theorem fsv_step {keep : Int} {fs : List FE} {vis : List Nat} {i : Nat} (hi : i < fs.length) (hv : i ∉ vis) : fsv keep fs (vis ++ [i]) = (fsv keep fs vis).set i (crashE keep fs[i]) := by
  apply List.ext_getElem
  · simp [fsv]
  · intro j h1 h2
    have hj : j < fs.length := by simpa [fsv] using h1
    rw [List.getElem_set, fsv_get h1 hj]
    by_cases h : i = j
    · subst h; simp
    · have h' : ¬ j = i := fun e => h e.symm
      rw [if_neg h, fsv_get (by rw [fsv_length]; exact hj) hj]
      simp [h']
theorem fsv_keys {keep : Int} {fs : List FE} {vis : List Nat} : keysOf (fsv keep fs vis) = keysOf fs := by
  apply List.ext_getElem
  · simp [keysOf, fsv]
  · intro j h1 h2
    have hj : j < fs.length := by simpa [keysOf] using h2
    simp only [keysOf, List.getElem_map]
    rw [fsv_get (by rw [fsv_length]; exact hj) hj]
    split <;> rfl

structure CInv (W : World) (D : Nat → Prop) (b r it : Nat) (fs : List FE) (fuse keep : Int) (dead : Bool) (k : Nat) (x : World) : Prop where
  ex : ∃ vis : List Nat, vis.length = k ∧ Iter Value.string x it r (keysOf fs) vis ∧ Fs x D (fsv keep fs vis) ∧
    Blk x b [.map (some r), .int .i64 fuse, .bool dead, .int .i64 ((used ((fsv keep fs vis).map FE.ab) : Nat) : Int)] 60 ∧ used ((fsv keep fs vis).map FE.ab) ≤ 4194304
  chg : ∃ S, Fr S W x ∧ ∀ y ∈ S, D y

theorem crash_round {W : World} {r it : Nat} {fs : List FE} {keep : Int} (hk : -9223372036854775808 ≤ keep ∧ keep < 9223372036854775808) (hDr : D r) (hDb : D b) (hit : ¬ D it) (hW : W.heap.size ≤ it) (k : Nat) (x : World) (hi : CInv W D b r it fs fuse keep dead k x) :
    (k = fs.length ∧ g27_l6_b (some ⟨it, 0, none⟩) (some ⟨b, 0, none⟩) keep () x = some (.exit 0, (), x)) ∨
    (k < fs.length ∧ ∃ x', g27_l6_b (some ⟨it, 0, none⟩) (some ⟨b, 0, none⟩) keep () x = some (.normal, (), x') ∧ CInv W D b r it fs fuse keep dead (k + 1) x') := by
  obtain ⟨⟨vis, hvl, hit', hfs, hb, hul⟩, S0, F0, hS0⟩ := hi
  have hne : it ≠ r := fun e => hit (e ▸ hDr)
  have hneb : it ≠ b := fun e => hit (e ▸ hDb)
  have hkl : (keysOf fs).length = fs.length := by simp [keysOf]
  rcases iter_next (P := Try.prog) hit' hne 0 with ⟨h1, h2⟩ | ⟨h1, i, hi', x1, hv, h2, h3, f1, h4⟩
  · left
    refine ⟨by omega, ?_⟩
    unfold g27_l6_b
    simp only [h2, asNext_f, onNext_n, Option.bind_some, asP_pointer, asB_bool, asI_int, asS_string, asSl_slice, asM_map, asTup0, asTup1, asTup2, asTup3, asTup4, asTup5, getD0, getD1, getD2, getD3, getD4, Bool.not_true, Bool.not_false, Bool.false_eq_true, Bool.true_eq_false, ↓reduceIte, decide_true, decide_false, Option.isNone_some, Option.isNone_none, Option.isSome_some, Option.isSome_none, beq_self_eq_true, bne_self_eq_false, Bool.and_true, Bool.true_and, Bool.and_false, Bool.false_and, not_true_eq_false, not_false_eq_true]
  · right
    rw [hkl] at hi' h1
    refine ⟨by omega, ?_⟩
    have hki : (keysOf fs)[i]'(by rw [hkl]; exact hi') = (fs[i].name, .pointer (some ⟨fs[i].fb, 0, none⟩)) := by simp [keysOf]
    rw [hki] at h2 h4
    simp only at h2 h4
    -- the file
    have hgi : (fsv keep fs vis)[i]'(by rw [fsv_length]; exact hi') = fs[i] := by rw [fsv_get (by rw [fsv_length]; exact hi') hi', if_neg hv]
    have ok := hfs.ok i (by rw [fsv_length]; exact hi')
    rw [hgi] at ok
    have hitfb : it ≠ fs[i].fb := fun e => hit (e ▸ ok.reg.1)
    have hitq : it ∉ blkOf fs[i].q := fun hm => hit (ok.reg.2 _ hm)
    have hug := used_get (fs := fsv keep fs vis) (i := i) (by rw [fsv_length]; exact hi')
    rw [hgi] at hug
    have hol := ok.own.len
    simp only [List.length_map, Nat.mul_one] at hol
    have hsyn := ok.syn
    have hle := ok.own.le
    obtain ⟨hl1, hl2⟩ := leftN_le keep (v := (fs[i].data, fs[i].syn)) hsyn
    simp only at hl1 hl2
    obtain ⟨L, hL⟩ : ∃ L, leftN keep (fs[i].data, fs[i].syn) = L := ⟨_, rfl⟩
    rw [hL] at hl1 hl2
    have b1 := hb.fr f1 (by simpa using hneb.symm)
    have k1 := ok.blk.fr f1 (by simpa using hitfb.symm)
    have o1 := ok.own.fr f1 (by intro y hy hm; simp at hm; subst hm; exact hitq hy)
    have fd1 : Fr [] x1 x1.drew := Fr.drew _ _
    have fd2 : Fr [] x1.drew x1.drew.drew := Fr.drew _ _
    have fd3 : Fr [] x1.drew.drew x1.drew.drew.drew := Fr.drew _ _
    have c0 : x1.drew.cell? ⟨fs[i].fb, 0, none⟩ = some (.slice fs[i].q.1 fs[i].q.2.1 fs[i].q.2.2) := k1.cell 0
    have c1 : x1.drew.cell? ⟨fs[i].fb, 1, none⟩ = some (.int .i64 (fs[i].syn : Int)) := k1.cell 1
    have c1' : x1.drew.drew.cell? ⟨fs[i].fb, 1, none⟩ = some (.int .i64 (fs[i].syn : Int)) := k1.cell 1
    have c3 : x1.drew.drew.drew.cell? ⟨b, 3, none⟩ = some (.int .i64 ((used ((fsv keep fs vis).map FE.ab) : Nat) : Int)) := b1.cell 3
    have c0' : x1.drew.drew.drew.cell? ⟨fs[i].fb, 0, none⟩ = some (.slice fs[i].q.1 fs[i].q.2.1 fs[i].q.2.2) := k1.cell 0
    have w1 : IntKind.i64.wrap ((fs[i].q.2.1 : Int) - (fs[i].syn : Int)) = ((fs[i].data.length - fs[i].syn : Nat) : Int) := by rw [wrap_i64 (by omega) (by omega)]; omega
    have w2 : IntKind.i64.wrap (((fs[i].data.length - fs[i].syn : Nat) : Int) + 1) = ((fs[i].data.length - fs[i].syn + 1 : Nat) : Int) := wrap_succ (by omega)
    have w3 : IntKind.u64.wrap ((fs[i].data.length - fs[i].syn + 1 : Nat) : Int) = ((fs[i].data.length - fs[i].syn + 1 : Nat) : Int) := wrap_u64 (by omega) (by omega)
    have hnz : ¬ ((fs[i].data.length - fs[i].syn + 1 : Nat) : Int) = 0 := by omega
    have wk : IntKind.u64.wrap keep = keep % 18446744073709551616 := by simp [IntKind.wrap, IntKind.bits, IntKind.signed]
    have hk0 : 0 ≤ keep % 18446744073709551616 := Int.emod_nonneg _ (by decide)
    have wm : IntKind.i64.wrap (Int.tmod (keep % 18446744073709551616) ((fs[i].data.length - fs[i].syn + 1 : Nat) : Int)) = ((L - fs[i].syn : Nat) : Int) := by
      have hLd : L - fs[i].syn = (keep % 18446744073709551616).toNat % (fs[i].data.length - fs[i].syn + 1) := by rw [← hL]; unfold leftN; simp
      have hmd : Int.tmod (keep % 18446744073709551616) ((fs[i].data.length - fs[i].syn + 1 : Nat) : Int) = (((keep % 18446744073709551616).toNat % (fs[i].data.length - fs[i].syn + 1) : Nat) : Int) := by
        rw [Int.tmod_eq_emod_of_nonneg hk0]
        obtain ⟨m, hm⟩ := Int.eq_ofNat_of_zero_le hk0
        rw [hm, Int.toNat_natCast]; rfl
      rw [hmd, ← hLd, wrap_i64 (by omega) (by omega)]
    have w4 : IntKind.i64.wrap ((fs[i].syn : Int) + ((L - fs[i].syn : Nat) : Int)) = (L : Int) := by rw [wrap_i64 (by omega) (by omega)]; omega
    have w5 : IntKind.i64.wrap ((fs[i].q.2.1 : Int) - (L : Int)) = ((fs[i].data.length - L : Nat) : Int) := by rw [wrap_i64 (by omega) (by omega)]; omega
    have w6 : IntKind.i64.wrap (((used ((fsv keep fs vis).map FE.ab) : Nat) : Int) - ((fs[i].data.length - L : Nat) : Int)) = ((used ((fsv keep fs vis).map FE.ab) - (fs[i].data.length - L) : Nat) : Int) := by rw [wrap_i64 (by omega) (by omega)]; omega
    have hus := used_set (fs := fsv keep fs vis) (i := i) (by rw [fsv_length]; exact hi') (fs[i].data.take L) L fs[i].name
    rw [hgi, List.length_take] at hus
    have hab : (fsv keep fs (vis ++ [i])).map FE.ab = ((fsv keep fs vis).map FE.ab).set i (fs[i].name, fs[i].data.take L, L) := by
      rw [fsv_step hi' hv, List.map_set]
      simp only [FE.ab, crashE, hL]
    obtain ⟨U, hU⟩ : ∃ U, used ((fsv keep fs vis).map FE.ab) - (fs[i].data.length - L) = U := ⟨_, rfl⟩
    rw [hU] at w6
    have hUu : used ((fsv keep fs (vis ++ [i])).map FE.ab) = U := by rw [hab]; omega
    have t1 : st1 x1.drew.drew.drew ⟨b, 3, none⟩ (.int .i64 (U : Int)) = some (x1.drew.drew.drew.setCell ⟨b, 3, none⟩ (.int .i64 (U : Int))) := b1.drew.drew.drew.st1 (by simp) rfl
    have g1 : Fr [b] x1.drew.drew.drew (x1.drew.drew.drew.setCell ⟨b, 3, none⟩ (.int .i64 (U : Int))) := Fr.setCell
    have b2 := b1.drew.drew.drew.set 3 (.int .i64 (U : Int))
    simp only [List.set_cons_succ, List.set_cons_zero] at b2
    have nb : b ≠ fs[i].fb := hb.ne ok.blk (by decide)
    have nbq : b ∉ blkOf fs[i].q := hb.notin ok.own (by decide)
    have k2 := k1.drew.drew.drew.fr g1 (by simpa using nb.symm)
    have o2 := o1.drew.drew.drew.fr g1 (by intro y hy hm; simp at hm; subst hm; exact nbq hy)
    generalize x1.drew.drew.drew.setCell ⟨b, 3, none⟩ (.int .i64 (U : Int)) = x2 at t1 g1 b2 k2 o2
    have d0 : x2.cell? ⟨fs[i].fb, 0, none⟩ = some (.slice fs[i].q.1 fs[i].q.2.1 fs[i].q.2.2) := k2.cell 0
    have es := slc3 (u := fs[i].q) (j := L) (by omega)
    have t2 : st1 x2 ⟨fs[i].fb, 0, none⟩ (.slice fs[i].q.1 L L) = some (x2.setCell ⟨fs[i].fb, 0, none⟩ (.slice fs[i].q.1 L L)) := k2.st1 (by simp) rfl
    have g2 : Fr [fs[i].fb] x2 (x2.setCell ⟨fs[i].fb, 0, none⟩ (.slice fs[i].q.1 L L)) := Fr.setCell
    have k3 := k2.set 0 (.slice fs[i].q.1 L L)
    simp only [List.set_cons_zero] at k3
    have b3 := b2.fr g2 (by simpa using nb)
    have nf : fs[i].fb ∉ blkOf fs[i].q := ok.apart ok
    have o3 := o2.fr g2 (by intro y hy hm; simp at hm; subst hm; exact nf hy)
    generalize x2.setCell ⟨fs[i].fb, 0, none⟩ (.slice fs[i].q.1 L L) = x3 at t2 g2 k3 b3 o3
    have t3 : st1 x3 ⟨fs[i].fb, 1, none⟩ (.int .i64 (L : Int)) = some (x3.setCell ⟨fs[i].fb, 1, none⟩ (.int .i64 (L : Int))) := k3.st1 (by simp) rfl
    have g3 : Fr [fs[i].fb] x3 (x3.setCell ⟨fs[i].fb, 1, none⟩ (.int .i64 (L : Int))) := Fr.setCell
    have k4 := k3.set 1 (.int .i64 (L : Int))
    simp only [List.set_cons_succ, List.set_cons_zero] at k4
    have b4 := b3.fr g3 (by simpa using nb)
    have o4 := Own.cut (o3.fr g3 (by intro y hy hm; simp at hm; subst hm; exact nf hy)) (j := L) (by omega)
    rw [← List.map_take] at o4
    generalize x3.setCell ⟨fs[i].fb, 1, none⟩ (.int .i64 (L : Int)) = x4 at t3 g3 k4 b4 o4
    have G : Fr [b, fs[i].fb] x1 x4 := (Fr.mono (Fr.app (Fr.app (Fr.app (Fr.app (Fr.app fd1 fd2) fd3) g1) g2) g3) (by have z0_ := Fr.size fd1; have z1_ := Fr.size fd2; have z2_ := Fr.size fd3; have z3_ := Fr.size g1; have z4_ := Fr.size g2; have z5_ := Fr.size g3; intro y_ hy_ hl_; grind [blkOf]))
    have rb : r ≠ b := hit'.map.ne_blk hb
    have rf : r ≠ fs[i].fb := hit'.map.ne_blk ok.blk
    have rq : r ∉ blkOf fs[i].q := hit'.map.notin ok.own
    have GG : Fr [it, b, fs[i].fb] x x4 := (Fr.mono (Fr.app f1 G) (by have z0_ := Fr.size f1; have z1_ := Fr.size G; intro y_ hy_ hl_; grind [blkOf]))
    have zz := F0.size
    refine ⟨x4, ?_, ⟨vis ++ [i], by simp [hvl], h3.fr G (by simp [hneb, hitfb]) (by simp [rb, rf]), ?_, ?_, by rw [hUu]; omega⟩, ⟨(S0 ++ [it, b, fs[i].fb]).filter (· < W.heap.size), ?_, ?_⟩⟩
    · unfold g27_l6_b
      simp only [h2, asNext_t, onNext_s, h4, c0, addr_add, Nat.zero_add, c1, w1, w2, w3, hnz, c1', wk, wm, w4, c3, c0', w5, w6, t1, d0, es, t2, t3, Option.bind_some, asP_pointer, asB_bool, asI_int, asS_string, asSl_slice, asM_map, asTup0, asTup1, asTup2, asTup3, asTup4, asTup5, getD0, getD1, getD2, getD3, getD4, Bool.not_true, Bool.not_false, Bool.false_eq_true, Bool.true_eq_false, ↓reduceIte, decide_true, decide_false, Option.isNone_some, Option.isNone_none, Option.isSome_some, Option.isSome_none, beq_self_eq_true, bne_self_eq_false, Bool.and_true, Bool.true_and, Bool.and_false, Bool.false_and, not_true_eq_false, not_false_eq_true]
    · rw [fsv_step hi' hv]
      refine hfs.set (i := i) (by rw [fsv_length]; exact hi') (by rw [hgi]; rfl) (by rw [hgi]; rfl) GG ?_ (fun _ => id) ?_ ?_
      · intro y hy
        rw [hgi]
        simp only [List.mem_cons, List.not_mem_nil, or_false] at hy
        rcases hy with hy | hy | hy
        · subst hy; right; right
          intro j hj
          exact ⟨fun e => hit (e ▸ (hfs.ok j hj).reg.1), fun hm => hit ((hfs.ok j hj).reg.2 _ hm)⟩
        · subst hy; right; right; exact fun j hj => ⟨hb.ne (hfs.ok j hj).blk (by decide), hb.notin (hfs.ok j hj).own (by decide)⟩
        · exact .inl hy
      · have : crashE keep fs[i] = ⟨fs[i].name, fs[i].fb, (fs[i].q.1, L, L), fs[i].data.take L, L⟩ := by simp only [crashE, hL]
        rw [this]
        exact ⟨k4, o4, zs_take ok.zs L, by show L ≤ (fs[i].data.take L).length; rw [List.length_take]; omega, ok.reg⟩
      · intro y hy; left; rw [hgi]; exact hy
    · rw [hUu]; exact b4
    · exact (F0.app GG).mono (by intro y hy hl; simp only [List.mem_filter, decide_eq_true_eq]; exact ⟨hy, hl⟩)
    · intro y hy
      simp only [List.mem_filter, decide_eq_true_eq, List.mem_append, List.mem_cons, List.not_mem_nil, or_false] at hy
      rcases hy.1 with hh | hh | hh | hh
      · exact hS0 y hh
      · omega
      · subst hh; exact hDb
      · subst hh; exact ok.reg.1

theorem crash14 (h : Dk w D b A fuse dead) {keep : Int} (hk : -9223372036854775808 ≤ keep ∧ keep < 9223372036854775808) :
    ∃ w', callF Try.prog 27 #[.pointer (some ⟨b, 0, none⟩), .int .i64 keep] w = some (.tuple #[], w') ∧ Dk w' D b (crashA keep A) (-1) false ∧ Chg D w w' D := by
  obtain ⟨r, fs, h1, h2, h3, h4, h5⟩ := h.ex
  have c0 : w.cell? ⟨b, 0, none⟩ = some (.map (some r)) := h2.cell 0
  obtain ⟨w1, e1, i1, f1⟩ := iter_range (P := Try.prog) Try.underlying58 h3
  have hit : ¬ D w.heap.size := fun hd => by have := h.lt _ hd; omega
  have hfs1 : Fs w1 D fs := h4.fr f1 (by simp) (fun _ => id)
  have hb1 := h2.fr f1 (by simp)
  have hus := h.used
  have hlen := h.len
  subst h1
  have hlen' : fs.length ≤ 4096 := by simpa using hlen
  obtain ⟨e, t, w2, g1, rfl, g2⟩ := loopS_rule (b := g27_l6_b (some ⟨w.heap.size, 0, none⟩) (some ⟨b, 0, none⟩) keep) (I := fun k s x => CInv w D b r w.heap.size fs fuse keep dead k x)
    (Q := fun e s x => e = .exit 0 ∧ CInv w D b r w.heap.size fs fuse keep dead fs.length x) (n := fs.length)
    (fun k s x hkl hi => by
      rcases crash_round hk h5 h.db hit (Nat.le_refl _) k x hi with ⟨h1, h2⟩ | ⟨h1, x', h2, h3⟩
      · omega
      · exact ⟨.normal, (), x', h2, .inl ⟨rfl, h3⟩⟩)
    (fun s x hi => by
      rcases crash_round hk h5 h.db hit (Nat.le_refl _) fs.length x hi with ⟨h1, h2⟩ | ⟨h1, x', h2, h3⟩
      · exact ⟨.exit 0, (), x, h2, by simp, rfl, hi⟩
      · omega)
    (Nat.zero_le _) (k := 0) (s := ()) (w := w1) ⟨⟨[], rfl, i1, by rw [fsv_nil]; exact hfs1, by rw [fsv_nil]; exact hb1, by rw [fsv_nil]; exact hus⟩, [], f1, by simp⟩
  obtain ⟨⟨vis, hvl, j1, j2, j3, j4⟩, S, F, hS⟩ := g2
  have hall : fsv keep fs vis = fs.map (crashE keep) := fsv_all (by
    have := j1.all (by rw [hvl]; simp [keysOf])
    simpa [keysOf] using this)
  rw [hall] at j2 j3 j4
  have hcr : (fs.map (crashE keep)).map FE.ab = crashA keep (fs.map FE.ab) := by simp [crashA, FE.ab, crashE, crashV]
  have hkk : keysOf (fs.map (crashE keep)) = keysOf fs := by rw [← hall]; exact fsv_keys
  have t1 : st1 w2 ⟨b, 2, none⟩ (.bool false) = some (w2.setCell ⟨b, 2, none⟩ (.bool false)) := j3.st1 (by simp) rfl
  have q1 : Fr [b] w2 (w2.setCell ⟨b, 2, none⟩ (.bool false)) := Fr.setCell
  have b1 := j3.set 2 (.bool false)
  simp only [List.set_cons_succ, List.set_cons_zero] at b1
  generalize w2.setCell ⟨b, 2, none⟩ (.bool false) = w3 at t1 q1 b1
  have t2 : st1 w3 ⟨b, 1, none⟩ (.int .i64 (-1)) = some (w3.setCell ⟨b, 1, none⟩ (.int .i64 (-1))) := b1.st1 (by simp) rfl
  have q2 : Fr [b] w3 (w3.setCell ⟨b, 1, none⟩ (.int .i64 (-1))) := Fr.setCell
  have b2 := b1.set 1 (.int .i64 (-1))
  simp only [List.set_cons_succ, List.set_cons_zero] at b2
  generalize w3.setCell ⟨b, 1, none⟩ (.int .i64 (-1)) = w4 at t2 q2 b2
  have Q2 : Fr [b] w2 w4 := (Fr.mono (Fr.app q1 q2) (by have z0_ := Fr.size q1; have z1_ := Fr.size q2; intro y_ hy_ hl_; grind [blkOf]))
  have rb : r ≠ b := h3.ne_blk h2
  refine ⟨w4, g27_call ?_, ⟨⟨r, fs.map (crashE keep), hcr.symm, by rw [← hcr]; exact b2, by rw [hkk]; exact j1.map.fr Q2 (by simpa using rb), ?_, h5⟩, h.db, ?_, by decide, by rw [← hcr]; exact j4, by simpa [crashA] using hlen'⟩, ⟨⟨S ++ [b], F.app Q2, ?_⟩, fun _ => id, fun y hy => .inl hy⟩⟩
  · unfold g27
    simp only [c0, e1, g27_l6_x0_of g1, Option.bind_some, asP_pointer, asB_bool, asI_int, asS_string, asSl_slice, asM_map, asTup0, asTup1, asTup2, asTup3, asTup4, asTup5, getD0, getD1, getD2, getD3, getD4, Bool.not_true, Bool.not_false, Bool.false_eq_true, Bool.true_eq_false, ↓reduceIte, decide_true, decide_false, Option.isNone_some, Option.isNone_none, Option.isSome_some, Option.isSome_none, beq_self_eq_true, bne_self_eq_false, Bool.and_true, Bool.true_and, Bool.and_false, Bool.false_and, not_true_eq_false, not_false_eq_true]
    unfold g27_l6_x0
    simp only [addr_add, Nat.zero_add, t1, t2, Option.bind_some, asP_pointer, asB_bool, asI_int, asS_string, asSl_slice, asM_map, asTup0, asTup1, asTup2, asTup3, asTup4, asTup5, getD0, getD1, getD2, getD3, getD4, Bool.not_true, Bool.not_false, Bool.false_eq_true, Bool.true_eq_false, ↓reduceIte, decide_true, decide_false, Option.isNone_some, Option.isNone_none, Option.isSome_some, Option.isSome_none, beq_self_eq_true, bne_self_eq_false, Bool.and_true, Bool.true_and, Bool.and_false, Bool.false_and, not_true_eq_false, not_false_eq_true]
  · exact j2.fr Q2 (by intro y hy j hj; simp at hy; subst hy; exact ⟨j3.ne (j2.ok j hj).blk (by decide), j3.notin (j2.ok j hj).own (by decide)⟩) (fun _ => id)
  · intro y hy; have := h.lt y hy; have := F.size; have := Q2.size; omega
  · intro y hy
    rw [List.mem_append] at hy
    rcases hy with hh | hh
    · exact hS y hh
    · simp at hh; subst hh; exact h.db
end
end Go.Proofs.Ytnflklkjjjlpaaa

namespace Go.Proofs.Ytnflklkjjjlpaaa
open Go Go.Ev
set_option maxRecDepth 100000
set_option linter.unusedVariables false
set_option linter.unusedSimpArgs false

/-- bytes as a text -/
def ofB (zs : List Int) : ByteArray := ⟨(zs.map fun z => UInt8.ofNat z.toNat).toArray⟩

theorem conv_str {w : World} {q : Option Addr × Nat × Nat} {zs : List Int} (h : Sl8 w q zs) (hz : Zs zs) : semR Try.prog (convert 31 9 (.slice q.1 q.2.1 q.2.2)) w = some (.string (ofB zs), w) := by
  have hl := h.1
  cases ha : q.1 with
  | none =>
    have h0 : zs.length = 0 := by
      rcases Nat.eq_zero_or_pos q.2.1 with h0 | h0
      · rw [hl, h0]
      · obtain ⟨b, off, h1, _⟩ := h.2 h0
        rw [ha] at h1; cases h1
    have hzs : zs = [] := List.eq_nil_of_length_eq_zero h0
    subst hzs
    have := run_convert_bytes_nil (P := Try.prog) (w := w) 31 5 Try.underlying31 (by kernel_rfl) q.2.1 q.2.2 9 (by kernel_rfl)
    unfold semR
    rw [this]; rfl
  | some a =>
    have hlen : (zs.map fun z => UInt8.ofNat z.toNat).length = q.2.1 := by simp [hl]
    have := run_convert_bytes_back (P := Try.prog) w 31 9 5 a q.2.2 (zs.map fun z => UInt8.ofNat z.toNat) Try.underlying31 (by kernel_rfl) (by kernel_rfl) (fun j hj => by
      simp only [List.length_map] at hj
      obtain ⟨b, off, h1, _, h3⟩ := h.2 (by omega)
      rw [ha] at h1
      obtain rfl : a = ⟨b, off, none⟩ := by simpa using h1
      rw [addr_add, h3 j hj]
      have hzj := hz _ (List.getElem_mem hj)
      simp only [List.getElem_map]
      congr 2
      rw [show (UInt8.ofNat zs[j].toNat).toNat = zs[j].toNat % 256 from rfl, Nat.mod_eq_of_lt (by omega)]; omega)
    unfold semR
    rw [hlen] at this
    rw [this]; rfl

/-- a text that stands in the code, as bytes -/
theorem conv_lit (w : World) (cs : List Int) : ∃ w', semR Try.prog (convert 31 31 (.slice (some ⟨w.heap.size, 0, none⟩) cs.length cs.length)) (w.alloc (.cells (cs.map (Value.int .u8)).toArray 5)) = some (.slice (some ⟨w.heap.size, 0, none⟩) cs.length cs.length, w') ∧
    Sl8 w' (some ⟨w.heap.size, 0, none⟩, cs.length, cs.length) cs ∧ Fr [] w w' ∧ w'.heap.size = w.heap.size + 1 := by
  have hc := Go.Lib.run_convert_bytes_const (P := Try.prog) w 31 5 (cs.map (Value.int .u8)).toArray cs.length cs.length Try.underlying31 (by kernel_rfl)
  refine ⟨w.alloc (.cells (cs.map (Value.int .u8)).toArray 5 ((cs.map (Value.int .u8)).toArray.size, (cs.map (Value.int .u8)).toArray.size + 1)), by unfold semR; rw [hc], ⟨rfl, fun _ => ⟨w.heap.size, 0, rfl, ?_, fun i hi => ?_⟩⟩, Fr.alloc _, Array.size_push _⟩
  · exact lt_of_blk (alloc_blk_new _)
  · rw [cell_blk (alloc_blk_new _)]
    simp [hi]

section
variable {w : World}

end
end Go.Proofs.Ytnflklkjjjlpaaa
