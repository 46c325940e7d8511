/-
  DiskC: lemmas on what Go functions of this seat come to (for whatever arguments, as each says). No condition but those that stand in each lemma.
-/
import Derived.Test.YtkmidlhnlnolnaaDiskF1
import Derived.Test.YtkmidlhnlnolnaaLb8
namespace Go.Proofs.Ytkmidlhnlnolnaa
open Go Go.Ev
set_option maxRecDepth 100000
set_option linter.unusedVariables false
set_option linter.unusedSimpArgs false

def Zs (zs : List Int) : Prop := ∀ z ∈ zs, 0 ≤ z ∧ z < 256
abbrev Sl8 (w : World) (s : Option Addr × Nat × Nat) (zs : List Int) : Prop := SlI .u8 w s zs

theorem t28 : TSl Try.prog 28 5 1 1 := tsl_of Try.underlying28 (by kernel_rfl)
theorem t37 : TSl Try.prog 37 9 1 16 := tsl_of Try.underlying37 (by kernel_rfl)

theorem oc8 {zs : List Int} : ∀ y ∈ zs.map (Value.int .u8), y.oneCell' = true := by simp

/-- a file in memory -/
structure FE where
  name : ByteArray
  fb : Nat
  q : Option Addr × Nat × Nat
  data : List Int
  syn : Nat

/-- what a file is: its bytes, how many of them last -/
abbrev FV := List Int × Nat
def FE.ab (f : FE) : ByteArray × FV := (f.name, f.data, f.syn)
def keysOf (fs : List FE) : List (ByteArray × Value) := fs.map fun f => (f.name, .pointer (some ⟨f.fb, 0, none⟩))
def used (A : List (ByteArray × FV)) : Nat := (A.map fun p => p.2.1.length).sum

structure FeOk (w : World) (D : Nat → Prop) (f : FE) : Prop where
  blk : Blk w f.fb [.slice f.q.1 f.q.2.1 f.q.2.2, .int .i64 (f.syn : Int)] 63
  own : Own w 5 1 f.q (f.data.map (Value.int .u8))
  zs : Zs f.data
  syn : f.syn ≤ f.data.length
  reg : D f.fb ∧ ∀ y ∈ blkOf f.q, D y

theorem FeOk.fr {w w' : World} {D D' : Nat → Prop} {f : FE} {S : List Nat} (h : FeOk w D f) (hf : Fr S w w') (h1 : f.fb ∉ S) (h2 : ∀ y ∈ blkOf f.q, y ∉ S) (hD : ∀ y, D y → D' y) : FeOk w' D' f :=
  ⟨h.blk.fr hf h1, h.own.fr hf h2, h.zs, h.syn, hD _ h.reg.1, fun y hy => hD y (h.reg.2 y hy)⟩

structure Fs (w : World) (D : Nat → Prop) (fs : List FE) : Prop where
  ok : ∀ i (h : i < fs.length), FeOk w D fs[i]
  ap : ∀ i j (hi : i < fs.length) (hj : j < fs.length), i ≠ j → fs[i].fb ≠ fs[j].fb ∧ fs[i].name ≠ fs[j].name ∧ ∀ y ∈ blkOf fs[i].q, y ∉ blkOf fs[j].q

theorem FeOk.apart {w : World} {D : Nat → Prop} {f g : FE} (h : FeOk w D f) (h' : FeOk w D g) : f.fb ∉ blkOf g.q := h.blk.notin h'.own (by decide)

theorem Fs.fr {w w' : World} {D D' : Nat → Prop} {fs : List FE} {S : List Nat} (h : Fs w D fs) (hf : Fr S w w') (hS : ∀ y ∈ S, ∀ i (hi : i < fs.length), y ≠ fs[i].fb ∧ y ∉ blkOf fs[i].q) (hD : ∀ y, D y → D' y) : Fs w' D' fs :=
  ⟨fun i hi => (h.ok i hi).fr hf (fun hm => (hS _ hm i hi).1 rfl) (fun y hy hm => (hS y hm i hi).2 hy) hD, h.ap⟩

theorem Fs.set {w w' : World} {D D' : Nat → Prop} {fs : List FE} {S : List Nat} (h : Fs w D fs) {i : Nat} (hi : i < fs.length) {f : FE} (hn : f.name = fs[i].name) (hb : f.fb = fs[i].fb) (hf : Fr S w w')
    (hS : ∀ y ∈ S, y = fs[i].fb ∨ y ∈ blkOf fs[i].q ∨ ∀ j (hj : j < fs.length), y ≠ fs[j].fb ∧ y ∉ blkOf fs[j].q) (hD : ∀ y, D y → D' y) (ok : FeOk w' D' f) (hq : ∀ y ∈ blkOf f.q, y ∈ blkOf fs[i].q ∨ w.heap.size ≤ y) : Fs w' D' (fs.set i f) := by
  have key : ∀ j (hj : j < fs.length), j ≠ i → ∀ y ∈ S, y ≠ fs[j].fb ∧ y ∉ blkOf fs[j].q := by
    intro j hj hji y hy
    have a := h.ap i j hi hj (fun e => hji e.symm)
    rcases hS y hy with hh | hh | hh
    · subst hh; exact ⟨a.1, (h.ok i hi).apart (h.ok j hj)⟩
    · exact ⟨fun e => (h.ok j hj).apart (h.ok i hi) (e ▸ hh), a.2.2 y hh⟩
    · exact hh j hj
  have apf : ∀ j (hj : j < fs.length), j ≠ i → f.fb ≠ fs[j].fb ∧ f.name ≠ fs[j].name ∧ ∀ y ∈ blkOf f.q, y ∉ blkOf fs[j].q := by
    intro j hj hji
    have a := h.ap i j hi hj (fun e => hji e.symm)
    refine ⟨hb ▸ a.1, hn ▸ a.2.1, fun y hy hm => ?_⟩
    rcases hq y hy with hh | hh
    · exact a.2.2 y hh hm
    · have := (h.ok j hj).own.lt y hm; omega
  refine ⟨fun j hj => ?_, fun j k hj hk hjk => ?_⟩
  · rw [List.length_set] at hj
    rw [List.getElem_set]
    split
    · exact ok
    · rename_i hne
      exact (h.ok j hj).fr hf (fun hm => (key j hj (fun e => hne e.symm) _ hm).1 rfl) (fun y hy hm => (key j hj (fun e => hne e.symm) y hm).2 hy) hD
  · rw [List.length_set] at hj hk
    rw [List.getElem_set, List.getElem_set]
    split
    · rename_i e1
      split
      · rename_i e2; omega
      · rename_i e2; exact apf k hk (fun e => e2 e.symm)
    · rename_i e1
      split
      · rename_i e2
        obtain ⟨a, b, c⟩ := apf j hj (fun e => e1 e.symm)
        exact ⟨a.symm, b.symm, fun y hy hm => c y hm hy⟩
      · exact h.ap j k hj hk hjk

theorem Fs.push {w w' : World} {D D' : Nat → Prop} {fs : List FE} {S : List Nat} (h : Fs w D fs) {f : FE} (hn : ∀ i (hi : i < fs.length), fs[i].name ≠ f.name) (hf : Fr S w w')
    (hS : ∀ y ∈ S, ∀ j (hj : j < fs.length), y ≠ fs[j].fb ∧ y ∉ blkOf fs[j].q) (hD : ∀ y, D y → D' y) (ok : FeOk w' D' f) (hb : w.heap.size ≤ f.fb) (hq : ∀ y ∈ blkOf f.q, w.heap.size ≤ y) : Fs w' D' (fs ++ [f]) := by
  have h1 := h.fr hf hS hD
  have apf : ∀ j (hj : j < fs.length), f.fb ≠ fs[j].fb ∧ f.name ≠ fs[j].name ∧ ∀ y ∈ blkOf f.q, y ∉ blkOf fs[j].q := by
    intro j hj
    have l1 := (h.ok j hj).blk.lt
    exact ⟨by omega, (hn j hj).symm, fun y hy hm => by have := (h.ok j hj).own.lt y hm; have := hq y hy; omega⟩
  refine ⟨fun j hj => ?_, fun j k hj hk hjk => ?_⟩
  · rw [List.getElem_append]
    split
    · exact h1.ok j _
    · rename_i hlt
      have : j - fs.length = 0 := by simp at hj; omega
      simp only [this, List.getElem_cons_zero]; exact ok
  · rw [List.getElem_append, List.getElem_append]
    simp only [List.length_append, List.length_cons, List.length_nil] at hj hk
    split
    · split
      · exact h.ap j k _ _ hjk
      · rename_i e1 e2
        have : k - fs.length = 0 := by omega
        simp only [this, List.getElem_cons_zero]
        obtain ⟨a, b, c⟩ := apf j e1
        exact ⟨a.symm, b.symm, fun y hy hm => c y hm hy⟩
    · split
      · rename_i e1 e2
        have : j - fs.length = 0 := by omega
        simp only [this, List.getElem_cons_zero]
        exact apf k e2
      · omega

theorem Fs.erase {w : World} {D : Nat → Prop} {fs : List FE} (h : Fs w D fs) (i : Nat) : Fs w D (fs.eraseIdx i) := by
  have key : ∀ j (hj : j < (fs.eraseIdx i).length), ∃ k, ∃ hk : k < fs.length, (fs.eraseIdx i)[j] = fs[k] ∧ k = (if j < i then j else j + 1) := by
    intro j hj
    have hl := hj
    rw [List.length_eraseIdx] at hl
    by_cases h1 : j < i
    · exact ⟨j, by split at hl <;> omega, by rw [List.getElem_eraseIdx, dif_pos h1], by rw [if_pos h1]⟩
    · exact ⟨j + 1, by split at hl <;> omega, by rw [List.getElem_eraseIdx, dif_neg h1], by rw [if_neg h1]⟩
  refine ⟨fun j hj => ?_, fun j k hj hk hjk => ?_⟩
  · obtain ⟨k, hk, e, _⟩ := key j hj
    rw [e]; exact h.ok k hk
  · obtain ⟨j', hj', e, ej⟩ := key j hj
    obtain ⟨k', hk', e', ek⟩ := key k hk
    rw [e, e']
    exact h.ap j' k' hj' hk' (by rw [ej, ek]; split <;> split <;> omega)

/-! ## the disk -/
structure Dk (w : World) (D : Nat → Prop) (b : Nat) (A : List (ByteArray × FV)) (fuse : Int) (dead : Bool) : Prop where
  ex : ∃ r fs, A = fs.map FE.ab ∧ Blk w b [.map (some r), .int .i64 fuse, .bool dead, .int .i64 ((used A : Nat) : Int)] 59 ∧ MapAt Value.string w r (keysOf fs) ∧ Fs w D fs ∧ D r
  db : D b
  lt : ∀ y, D y → y < w.heap.size
  fuse : -1 ≤ fuse ∧ fuse ≤ 9223372036854775807
  used : used A ≤ 4194304
  len : A.length ≤ 4096

theorem keysOf_get (fs : List FE) (n : ByteArray) : (∃ i, ∃ h : i < fs.length, fs[i].name = n ∧ kget (keysOf fs) n = some (.pointer (some ⟨fs[i].fb, 0, none⟩)) ∧ kget (fs.map FE.ab) n = some (fs[i].data, fs[i].syn) ∧
      (∀ g, kups (fs.map FE.ab) n g = (fs.map FE.ab).set i (n, g (some (fs[i].data, fs[i].syn)))) ∧ kdel (keysOf fs) n = keysOf (fs.eraseIdx i) ∧ kdel (fs.map FE.ab) n = (fs.eraseIdx i).map FE.ab) ∨
    (kget (keysOf fs) n = none ∧ kget (fs.map FE.ab) n = none ∧ (∀ i (h : i < fs.length), fs[i].name ≠ n) ∧ (∀ g, kups (fs.map FE.ab) n g = fs.map FE.ab ++ [(n, g none)])) := by
  induction fs with
  | nil => exact .inr ⟨rfl, rfl, fun i h => absurd h (by simp), fun g => rfl⟩
  | cons f fs ih =>
    have ek : keysOf (f :: fs) = (f.name, .pointer (some ⟨f.fb, 0, none⟩)) :: keysOf fs := rfl
    have ea : (f :: fs).map FE.ab = (f.name, f.data, f.syn) :: fs.map FE.ab := rfl
    rw [ek, ea, kget_cons, kget_cons]
    by_cases hn : n = f.name
    · exact .inl ⟨0, by simp, hn.symm, by simp [hn], by simp [hn], fun g => by simp [kups, hn], by simp [kdel, hn], by simp [kdel, hn]⟩
    · simp only [hn, if_false]
      rcases ih with ⟨i, hi, h1, h2, h3, h4, h5, h6⟩ | ⟨h1, h2, h3, h4⟩
      · refine .inl ⟨i + 1, by simp; omega, by simpa using h1, by simpa using h2, by simpa using h3, fun g => by simp [kups, hn, h4], by rw [kdel, if_neg hn, h5]; rfl, by rw [kdel, if_neg hn, h6]; rfl⟩
      · refine .inr ⟨h1, h2, fun i hi => ?_, fun g => by simp [kups, hn, h4]⟩
        cases i with
        | zero => exact fun e => hn e.symm
        | succ i => exact h3 i (by simpa using hi)

theorem Dk.fr {w w' : World} {D : Nat → Prop} {b : Nat} {A : List (ByteArray × FV)} {fuse : Int} {dead : Bool} {S : List Nat} (h : Dk w D b A fuse dead) (hf : Fr S w w') (hS : ∀ y ∈ S, y < w.heap.size → ¬ D y) : Dk w' D b A fuse dead := by
  obtain ⟨r, fs, h1, h2, h3, h4, h5⟩ := h.ex
  have hf' := fr_old hf
  have hS' : ∀ y ∈ S.filter (· < w.heap.size), ¬ D y := by intro y hy; simp at hy; exact hS y hy.1 hy.2
  refine ⟨⟨r, fs, h1, h2.fr hf' (fun hm => hS' _ hm h.db), h3.fr hf' (fun hm => hS' _ hm h5), h4.fr hf' (fun y hy i hi => ⟨fun e => hS' y hy (e ▸ (h4.ok i hi).reg.1), fun hm => hS' y hy ((h4.ok i hi).reg.2 y hm)⟩) (fun _ => id), h5⟩, h.db, fun y hy => ?_, h.fuse, h.used, h.len⟩
  have := h.lt y hy; have := hf.size; omega

theorem used_set {fs : List FE} {i : Nat} (hi : i < fs.length) (d : List Int) (s : Nat) (n : ByteArray) : used ((fs.map FE.ab).set i (n, d, s)) + fs[i].data.length = used (fs.map FE.ab) + d.length := by
  induction fs generalizing i with
  | nil => simp at hi
  | cons f fs ih =>
    cases i with
    | zero => simp [used, FE.ab]; omega
    | succ i =>
      have := ih (i := i) (by simpa using hi)
      simp only [used, List.map_cons, List.set_cons_succ, List.sum_cons, List.getElem_cons_succ] at this ⊢
      omega
theorem used_append (A B : List (ByteArray × FV)) : used (A ++ B) = used A + used B := by simp [used]
theorem used_erase {fs : List FE} {i : Nat} (hi : i < fs.length) : used ((fs.eraseIdx i).map FE.ab) + fs[i].data.length = used (fs.map FE.ab) := by
  induction fs generalizing i with
  | nil => simp at hi
  | cons f fs ih =>
    cases i with
    | zero => simp [used, FE.ab]; omega
    | succ i =>
      have := ih (i := i) (by simpa using hi)
      simp only [used, List.map_cons, List.eraseIdx_cons_succ, List.sum_cons, List.getElem_cons_succ] at this ⊢
      omega
theorem used_get {fs : List FE} {i : Nat} (hi : i < fs.length) : fs[i].data.length ≤ used (fs.map FE.ab) := by have := used_erase hi; omega

section
variable {w : World} {D : Nat → Prop} {b : Nat} {A : List (ByteArray × FV)} {fuse : Int} {dead : Bool}

theorem new8 (w : World) : ∃ w' D', callF Try.prog 8 #[] w = some (.pointer (some ⟨w.heap.size + 1, 0, none⟩), w') ∧ Dk w' D' (w.heap.size + 1) [] (-1) false ∧ Fr [] w w' ∧ ∀ y, D' y → w.heap.size ≤ y := by
  have f1 : Fr [] w (w.alloc (.map #[] 0)) := Fr.alloc _
  have m1 := MapAt.new Value.string w
  have z1 : (w.alloc (.map #[] 0)).heap.size = w.heap.size + 1 := Array.size_push _
  have e0 : callF Try.prog 8 #[] w = some (.pointer (some ⟨(w.alloc (.map #[] 0)).heap.size, 0, none⟩), (w.alloc (.map #[] 0)).alloc (.cells #[.map (some w.heap.size), .int .i64 (-1), .bool false, .int .i64 0] 59)) := g8_call rfl
  generalize w.alloc (.map #[] 0) = w1 at *
  have f2 : Fr [] w1 (w1.alloc (.cells #[.map (some w.heap.size), .int .i64 (-1), .bool false, .int .i64 0] 59)) := Fr.alloc _
  have b2 := Blk.new w1 [.map (some w.heap.size), .int .i64 (-1), .bool false, .int .i64 0] 59
  have z2 : (w1.alloc (.cells #[.map (some w.heap.size), .int .i64 (-1), .bool false, .int .i64 0] 59)).heap.size = w1.heap.size + 1 := Array.size_push _
  rw [z1] at e0
  refine ⟨_, fun y => y = w.heap.size ∨ y = w.heap.size + 1, e0, ⟨⟨w.heap.size, [], rfl, ?_, m1.fr f2 (by simp), ⟨fun i h => absurd h (by simp), fun i j h => absurd h (by simp)⟩, .inl rfl⟩, .inr rfl, ?_, by decide, by decide, by decide⟩, (Fr.mono (Fr.app f1 f2) (by have z0_ := Fr.size f1; have z1_ := Fr.size f2; intro y_ hy_ hl_; grind [blkOf])), ?_⟩
  · rw [z1] at b2; exact b2
  · intro y hy
    show y < (w1.alloc (.cells #[.map (some w.heap.size), .int .i64 (-1), .bool false, .int .i64 0] 59)).heap.size
    omega
  · intro y hy; omega

theorem state25 (h : Dk w D b A fuse dead) : callF Try.prog 25 #[.pointer (some ⟨b, 0, none⟩)] w = some (.int .i64 (if dead = true then 9 else 0), w) := by
  obtain ⟨r, fs, h1, h2, h3, h4, h5⟩ := h.ex
  have c2 : w.cell? ⟨b, 2, none⟩ = some (.bool dead) := h2.cell 2
  refine g25_call ?_
  unfold g25
  cases dead
  · simp only [addr_add, Nat.zero_add, c2, obs, asP_pointer, asB_bool, asI_int, asS_string, asSl_slice, asM_map, asTup0, asTup1, asTup2, asTup3, asTup4, asTup5, asTup6, asTup7, asTup8, asTup9, asAgg2, asAgg3, asAgg4, asAgg5, asAgg6, asAgg7, asAgg8, asAgg9, asAgg12, getD0, getD1, getD2, getD3, getD4, getD5, getD6, getD7, getD8, getD9, getD10, getD11, getD12, getD13, getD14, getD15, getD16, getD17, getD18, getD19, Bool.not_true, Bool.not_false, Bool.false_eq_true, Bool.true_eq_false, ↓reduceIte, decide_true, decide_false, Option.isNone_some, Option.isNone_none, Option.isSome_some, Option.isSome_none, beq_self_eq_true, bne_self_eq_false, Bool.and_true, Bool.true_and, Bool.and_false, Bool.false_and, not_true_eq_false, not_false_eq_true]
    all_goals rfl
  · simp only [addr_add, Nat.zero_add, c2, obs, asP_pointer, asB_bool, asI_int, asS_string, asSl_slice, asM_map, asTup0, asTup1, asTup2, asTup3, asTup4, asTup5, asTup6, asTup7, asTup8, asTup9, asAgg2, asAgg3, asAgg4, asAgg5, asAgg6, asAgg7, asAgg8, asAgg9, asAgg12, getD0, getD1, getD2, getD3, getD4, getD5, getD6, getD7, getD8, getD9, getD10, getD11, getD12, getD13, getD14, getD15, getD16, getD17, getD18, getD19, Bool.not_true, Bool.not_false, Bool.false_eq_true, Bool.true_eq_false, ↓reduceIte, decide_true, decide_false, Option.isNone_some, Option.isNone_none, Option.isSome_some, Option.isSome_none, beq_self_eq_true, bne_self_eq_false, Bool.and_true, Bool.true_and, Bool.and_false, Bool.false_and, not_true_eq_false, not_false_eq_true]

theorem look_ptr {r : Nat} {fs : List FE} (h : MapAt Value.string w r (keysOf fs)) (n : ByteArray) : mLook .string w (some r) (.string n) = some (kget (keysOf fs) n) := h.look keyOk_str n

/-- a file's place in memory -/
theorem find26 (h : Dk w D b A fuse false) (n : ByteArray) : ∃ r fs, A = fs.map FE.ab ∧ Blk w b [.map (some r), .int .i64 fuse, .bool false, .int .i64 ((used A : Nat) : Int)] 59 ∧ MapAt Value.string w r (keysOf fs) ∧ Fs w D fs ∧ D r ∧
    ((∃ i, ∃ hi : i < fs.length, fs[i].name = n ∧ callF Try.prog 26 #[.pointer (some ⟨b, 0, none⟩), .string n] w = some (.tuple #[.pointer (some ⟨fs[i].fb, 0, none⟩), .int .i64 0], w) ∧ kget A n = some (fs[i].data, fs[i].syn) ∧
      (∀ g, kups A n g = (fs.map FE.ab).set i (n, g (some (fs[i].data, fs[i].syn)))) ∧ kdel (keysOf fs) n = keysOf (fs.eraseIdx i) ∧ kdel A n = (fs.eraseIdx i).map FE.ab) ∨
     (kget A n = none ∧ callF Try.prog 26 #[.pointer (some ⟨b, 0, none⟩), .string n] w = some (.tuple #[.pointer none, .int .i64 4], w))) := by
  have e25 := state25 h
  obtain ⟨r, fs, h1, h2, h3, h4, h5⟩ := h.ex
  have c0 : w.cell? ⟨b, 0, none⟩ = some (.map (some r)) := h2.cell 0
  have h00 : ((0 : Int) != 0) = false := by decide
  subst h1
  refine ⟨r, fs, rfl, h2, h3, h4, h5, ?_⟩
  have lk := look_ptr h3 n
  rcases keysOf_get fs n with ⟨i, hi, k1, k2, k3, k4, k5, k6⟩ | ⟨k1, k2, k3, k4⟩
  · refine .inl ⟨i, hi, k1, g26_call ?_, k3, k4, k5, k6⟩
    rw [k2] at lk
    unfold g26
    simp only [e25, h00, c0, lk, Option.getD_some, obs, asP_pointer, asB_bool, asI_int, asS_string, asSl_slice, asM_map, asTup0, asTup1, asTup2, asTup3, asTup4, asTup5, asTup6, asTup7, asTup8, asTup9, asAgg2, asAgg3, asAgg4, asAgg5, asAgg6, asAgg7, asAgg8, asAgg9, asAgg12, getD0, getD1, getD2, getD3, getD4, getD5, getD6, getD7, getD8, getD9, getD10, getD11, getD12, getD13, getD14, getD15, getD16, getD17, getD18, getD19, Bool.not_true, Bool.not_false, Bool.false_eq_true, Bool.true_eq_false, ↓reduceIte, decide_true, decide_false, Option.isNone_some, Option.isNone_none, Option.isSome_some, Option.isSome_none, beq_self_eq_true, bne_self_eq_false, Bool.and_true, Bool.true_and, Bool.and_false, Bool.false_and, not_true_eq_false, not_false_eq_true]
  · refine .inr ⟨k2, g26_call ?_⟩
    rw [k1] at lk
    unfold g26
    simp only [e25, h00, c0, lk, Option.getD_none, obs, asP_pointer, asB_bool, asI_int, asS_string, asSl_slice, asM_map, asTup0, asTup1, asTup2, asTup3, asTup4, asTup5, asTup6, asTup7, asTup8, asTup9, asAgg2, asAgg3, asAgg4, asAgg5, asAgg6, asAgg7, asAgg8, asAgg9, asAgg12, getD0, getD1, getD2, getD3, getD4, getD5, getD6, getD7, getD8, getD9, getD10, getD11, getD12, getD13, getD14, getD15, getD16, getD17, getD18, getD19, Bool.not_true, Bool.not_false, Bool.false_eq_true, Bool.true_eq_false, ↓reduceIte, decide_true, decide_false, Option.isNone_some, Option.isNone_none, Option.isSome_some, Option.isSome_none, beq_self_eq_true, bne_self_eq_false, Bool.and_true, Bool.true_and, Bool.and_false, Bool.false_and, not_true_eq_false, not_false_eq_true]

theorem find26_dead (h : Dk w D b A fuse true) (n : ByteArray) : callF Try.prog 26 #[.pointer (some ⟨b, 0, none⟩), .string n] w = some (.tuple #[.pointer none, .int .i64 9], w) := by
  have e25 := state25 h
  have h90 : ((9 : Int) != 0) = true := by decide
  refine g26_call ?_
  unfold g26
  simp only [e25, h90, obs, asP_pointer, asB_bool, asI_int, asS_string, asSl_slice, asM_map, asTup0, asTup1, asTup2, asTup3, asTup4, asTup5, asTup6, asTup7, asTup8, asTup9, asAgg2, asAgg3, asAgg4, asAgg5, asAgg6, asAgg7, asAgg8, asAgg9, asAgg12, getD0, getD1, getD2, getD3, getD4, getD5, getD6, getD7, getD8, getD9, getD10, getD11, getD12, getD13, getD14, getD15, getD16, getD17, getD18, getD19, Bool.not_true, Bool.not_false, Bool.false_eq_true, Bool.true_eq_false, ↓reduceIte, decide_true, decide_false, Option.isNone_some, Option.isNone_none, Option.isSome_some, Option.isSome_none, beq_self_eq_true, bne_self_eq_false, Bool.and_true, Bool.true_and, Bool.and_false, Bool.false_and, not_true_eq_false, not_false_eq_true]
end
end Go.Proofs.Ytkmidlhnlnolnaa
