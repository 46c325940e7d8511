/-
  GroupG: lemmas on what Go functions of this seat come to (for whatever arguments, as each says). No condition but those that stand in each lemma.
-/
import Derived.Test.YtcakijeoeankfaaGroupD
namespace Go.Proofs.Ytcakijeoeankfaa
open Go Go.Ev
set_option maxRecDepth 100000
set_option linter.unusedVariables false
set_option linter.unusedSimpArgs false

/-- what is known of a group -/
structure TV where
  gen : Int
  mem : List Int
  offs : List (Int × Int)
def tv0 : TV := ⟨0, [], []⟩
/-- a group in memory -/
structure GE where
  n : Int
  p : Nat
  om : Nat
  q : Option Addr × Nat × Nat
  v : TV
def GE.ab (f : GE) : Int × TV := (f.n, f.v)
def offV (l : List (Int × Int)) : List (Int × Value) := l.map fun x => (x.1, .int .i64 x.2)
def keysOf (fs : List GE) : List (Int × Value) := fs.map fun f => (f.n, .pointer (some ⟨f.p, 0, none⟩))
def GE.cs (f : GE) : List Value := [.int .i64 f.v.gen, .slice f.q.1 f.q.2.1 f.q.2.2, .map (some f.om)]

structure GeOk (w : World) (D : Nat → Prop) (f : GE) : Prop where
  blk : Blk w f.p f.cs 92
  own : Own w 3 1 f.q (intsV' f.v.mem)
  mp : MapAt (Value.int .i64) w f.om (offV f.v.offs)
  reg : D f.p ∧ D f.om ∧ ∀ y ∈ blkOf f.q, D y
  len : f.v.mem.length ≤ 1000000

theorem GeOk.fr {w w' : World} {D D' : Nat → Prop} {f : GE} {S : List Nat} (h : GeOk w D f) (hf : Fr S w w') (h1 : f.p ∉ S) (h2 : f.om ∉ S) (h3 : ∀ y ∈ blkOf f.q, y ∉ S) (hD : ∀ y, D y → D' y) : GeOk w' D' f :=
  ⟨h.blk.fr hf h1, h.own.fr hf h3, h.mp.fr hf h2, ⟨hD _ h.reg.1, hD _ h.reg.2.1, fun y hy => hD y (h.reg.2.2 y hy)⟩, h.len⟩

structure Gs (w : World) (D : Nat → Prop) (fs : List GE) : Prop where
  ok : ∀ i (h : i < fs.length), GeOk w D fs[i]
  ap : ∀ i j (hi : i < fs.length) (hj : j < fs.length), i ≠ j → fs[i].p ≠ fs[j].p ∧ fs[i].n ≠ fs[j].n ∧ fs[i].om ≠ fs[j].om

theorem Gs.fr {w w' : World} {D D' : Nat → Prop} {fs : List GE} {S : List Nat} (h : Gs w D fs) (hf : Fr S w w') (hS : ∀ y ∈ S, ∀ i (hi : i < fs.length), y ≠ fs[i].p ∧ y ≠ fs[i].om ∧ y ∉ blkOf fs[i].q) (hD : ∀ y, D y → D' y) : Gs w' D' fs :=
  ⟨fun i hi => (h.ok i hi).fr hf (fun hm => (hS _ hm i hi).1 rfl) (fun hm => (hS _ hm i hi).2.1 rfl) (fun y hy hm => (hS y hm i hi).2.2 hy) hD, h.ap⟩

/-- one group's own blocks are no other's -/
theorem Gs.other {w : World} {D : Nat → Prop} {fs : List GE} (h : Gs w D fs) {i j : Nat} (hi : i < fs.length) (hj : j < fs.length) (hij : i ≠ j) {y : Nat} (hy : y = fs[i].p ∨ y = fs[i].om) : y ≠ fs[j].p ∧ y ≠ fs[j].om ∧ y ∉ blkOf fs[j].q := by
  have a := h.ap i j hi hj hij
  have oi := h.ok i hi
  have oj := h.ok j hj
  rcases hy with rfl | rfl
  · exact ⟨a.1, fun e => (oj.mp.ne_blk oi.blk) e.symm, oi.blk.notin oj.own (by decide)⟩
  · exact ⟨fun e => (oi.mp.ne_blk oj.blk) e, a.2.2, oi.mp.notin oj.own⟩

theorem Gs.set {w w' : World} {D D' : Nat → Prop} {fs : List GE} {S : List Nat} (h : Gs w D fs) {i : Nat} (hi : i < fs.length) {f : GE} (hn : f.n = fs[i].n) (hp : f.p = fs[i].p) (ho : f.om = fs[i].om) (hf : Fr S w w')
    (hS : ∀ y ∈ S, y < w.heap.size → y = fs[i].p ∨ y = fs[i].om) (hD : ∀ y, D y → D' y) (ok : GeOk w' D' f) : Gs w' D' (fs.set i f) := by
  have hf' := fr_old hf
  refine ⟨fun j hj => ?_, fun j k hj hk hjk => ?_⟩
  · rw [List.length_set] at hj
    rw [List.getElem_set]
    split
    · exact ok
    · rename_i hne
      have key : ∀ y ∈ S.filter (· < w.heap.size), y ≠ fs[j].p ∧ y ≠ fs[j].om ∧ y ∉ blkOf fs[j].q := fun y hy => by
        simp at hy
        exact h.other hi hj hne (hS y hy.1 hy.2)
      exact (h.ok j hj).fr hf' (fun hm => (key _ hm).1 rfl) (fun hm => (key _ hm).2.1 rfl) (fun y hy hm => (key y hm).2.2 hy) hD
  · rw [List.length_set] at hj hk
    rw [List.getElem_set, List.getElem_set]
    split
    · rename_i e1
      split
      · rename_i e2; omega
      · rename_i e2
        have a := h.ap i k hi hk e2
        exact ⟨hp ▸ a.1, hn ▸ a.2.1, ho ▸ a.2.2⟩
    · rename_i e1
      split
      · rename_i e2
        have a := h.ap j i hj hi (fun e => e1 e.symm)
        exact ⟨hp ▸ a.1, hn ▸ a.2.1, ho ▸ a.2.2⟩
      · exact h.ap j k hj hk hjk

theorem Gs.push {w w' : World} {D D' : Nat → Prop} {fs : List GE} {S : List Nat} (h : Gs w D fs) {f : GE} (hn : ∀ i (hi : i < fs.length), fs[i].n ≠ f.n) (hf : Fr S w w')
    (hS : ∀ y ∈ S, ∀ j (hj : j < fs.length), y ≠ fs[j].p ∧ y ≠ fs[j].om ∧ y ∉ blkOf fs[j].q) (hD : ∀ y, D y → D' y) (ok : GeOk w' D' f) (hb : w.heap.size ≤ f.p) (ho : w.heap.size ≤ f.om) : Gs w' D' (fs ++ [f]) := by
  have h1 := h.fr hf hS hD
  have apf : ∀ j (hj : j < fs.length), f.p ≠ fs[j].p ∧ f.n ≠ fs[j].n ∧ f.om ≠ fs[j].om := by
    intro j hj
    have l1 := (h.ok j hj).blk.lt
    have l2 := (h.ok j hj).mp.lt
    exact ⟨by omega, (hn j hj).symm, by omega⟩
  refine ⟨fun j hj => ?_, fun j k hj hk hjk => ?_⟩
  · rw [List.getElem_append]
    split
    · exact h1.ok j _
    · rename_i hlt
      have : j - fs.length = 0 := by simp at hj; omega
      simp only [this, List.getElem_cons_zero]; exact ok
  · rw [List.getElem_append, List.getElem_append]
    simp only [List.length_append, List.length_cons, List.length_nil] at hj hk
    split
    · split
      · exact h.ap j k _ _ hjk
      · rename_i e1 e2
        have : k - fs.length = 0 := by omega
        simp only [this, List.getElem_cons_zero]
        obtain ⟨a, b, c⟩ := apf j e1
        exact ⟨a.symm, b.symm, c.symm⟩
    · split
      · rename_i e1 e2
        have : j - fs.length = 0 := by omega
        simp only [this, List.getElem_cons_zero]
        exact apf k e2
      · omega

/-- the state, with the maps' places -/
structure StR (w : World) (D : Nat → Prop) (b r1 r2 : Nat) (fs : List GE) (ps : List (Int × Value)) : Prop where
  blk : Blk w b [.map (some r1), .map (some r2)] 87
  m1 : MapAt (Value.int .i64) w r1 (keysOf fs)
  m2 : MapAt (Value.int .u64) w r2 ps
  gs : Gs w D fs
  d1 : D r1
  d2 : D r2
  db : D b
  ne : r1 ≠ r2
  om : ∀ i (h : i < fs.length), fs[i].om ≠ r1 ∧ fs[i].om ≠ r2
  lt : ∀ y, D y → y < w.heap.size

def St (w : World) (D : Nat → Prop) (b : Nat) (T : List (Int × TV)) (ps : List (Int × Value)) : Prop := ∃ r1 r2 fs, T = fs.map GE.ab ∧ StR w D b r1 r2 fs ps

theorem StR.fr {w w' : World} {D : Nat → Prop} {b r1 r2 : Nat} {fs : List GE} {ps : List (Int × Value)} {S : List Nat} (h : StR w D b r1 r2 fs ps) (hf : Fr S w w') (hS : ∀ y ∈ S, y < w.heap.size → ¬ D y) : StR w' D b r1 r2 fs ps := by
  have hf' := fr_old hf
  have hS' : ∀ y ∈ S.filter (· < w.heap.size), ¬ D y := by intro y hy; simp at hy; exact hS y hy.1 hy.2
  refine ⟨h.blk.fr hf' (fun hm => hS' _ hm h.db), h.m1.fr hf' (fun hm => hS' _ hm h.d1), h.m2.fr hf' (fun hm => hS' _ hm h.d2), h.gs.fr hf' (fun y hy i hi => ?_) (fun _ => id), h.d1, h.d2, h.db, h.ne, h.om, fun y hy => Nat.lt_of_lt_of_le (h.lt y hy) hf.size⟩
  have hr := (h.gs.ok i hi).reg
  exact ⟨fun e => hS' y hy (e ▸ hr.1), fun e => hS' y hy (e ▸ hr.2.1), fun hm => hS' y hy (hr.2.2 y hm)⟩
theorem St.fr {w w' : World} {D : Nat → Prop} {b : Nat} {T : List (Int × TV)} {ps : List (Int × Value)} {S : List Nat} (h : St w D b T ps) (hf : Fr S w w') (hS : ∀ y ∈ S, y < w.heap.size → ¬ D y) : St w' D b T ps := by
  obtain ⟨r1, r2, fs, h1, h2⟩ := h
  exact ⟨r1, r2, fs, h1, h2.fr hf hS⟩
theorem St.lt {w : World} {D : Nat → Prop} {b : Nat} {T : List (Int × TV)} {ps : List (Int × Value)} (h : St w D b T ps) : ∀ y, D y → y < w.heap.size := by obtain ⟨_, _, _, _, h⟩ := h; exact h.lt
theorem St.db {w : World} {D : Nat → Prop} {b : Nat} {T : List (Int × TV)} {ps : List (Int × Value)} (h : St w D b T ps) : D b := by obtain ⟨_, _, _, _, h⟩ := h; exact h.db

theorem keysOf_get (fs : List GE) (n : Int) : (∃ i, ∃ h : i < fs.length, fs[i].n = n ∧ kget (keysOf fs) n = some (.pointer (some ⟨fs[i].p, 0, none⟩)) ∧ kget (fs.map GE.ab) n = some fs[i].v ∧
      (∀ g, kups (fs.map GE.ab) n g = (fs.map GE.ab).set i (n, g (some fs[i].v)))) ∨
    (kget (keysOf fs) n = none ∧ kget (fs.map GE.ab) n = none ∧ (∀ i (h : i < fs.length), fs[i].n ≠ n) ∧ (∀ g, kups (fs.map GE.ab) n g = fs.map GE.ab ++ [(n, g none)])) := by
  induction fs with
  | nil => exact .inr ⟨rfl, rfl, by simp, fun g => rfl⟩
  | cons f fs ih =>
    by_cases h : n = f.n
    · refine .inl ⟨0, by simp, h.symm, ?_, ?_, fun g => ?_⟩
      · simp [keysOf, kget_cons, h]
      · simp [GE.ab, kget_cons, h]
      · simp [GE.ab, kups, h]
    · rcases ih with ⟨i, hi, h1, h2, h3, h4⟩ | ⟨h1, h2, h3, h4⟩
      · refine .inl ⟨i + 1, by simp; omega, by simpa using h1, ?_, ?_, fun g => ?_⟩
        · simp only [keysOf, List.map_cons, kget_cons, if_neg h]; exact h2
        · simp only [GE.ab, List.map_cons, kget_cons, if_neg h]; exact h3
        · have := h4 g
          simp only [GE.ab, List.map_cons, kups, if_neg h, List.set_cons_succ] at *
          rw [this]; simp
      · refine .inr ⟨?_, ?_, ?_, fun g => ?_⟩
        · simp only [keysOf, List.map_cons, kget_cons, if_neg h]; exact h1
        · simp only [GE.ab, List.map_cons, kget_cons, if_neg h]; exact h2
        · intro i hi
          cases i with
          | zero => simpa using fun e => h e.symm
          | succ i => simpa using h3 i (by simpa using hi)
        · have := h4 g
          simp only [GE.ab, List.map_cons, kups, if_neg h] at *
          rw [this]; simp

theorem alloc_sz (w : World) (o : Obj) : (w.alloc o).heap.size = w.heap.size + 1 := by
  show (w.heap.push o).size = _
  exact Array.size_push _

theorem new19 (w : World) : ∃ w' D, callF Try.prog 19 #[] w = some (.pointer (some ⟨w.heap.size + 2, 0, none⟩), w') ∧ St w' D (w.heap.size + 2) [] [] ∧ Fr [] w w' ∧ ∀ y, D y → w.heap.size ≤ y := by
  have f1 : Fr [] w (w.alloc (.map #[] 0)) := Fr.alloc _
  have m1 := MapAt.new (Value.int .i64) w
  obtain ⟨w1, hw1⟩ : ∃ w1, w.alloc (.map #[] 0) = w1 := ⟨_, rfl⟩
  have s1 : w1.heap.size = w.heap.size + 1 := by rw [← hw1]; exact alloc_sz _ _
  rw [hw1] at f1 m1
  have f2 : Fr [] w1 (w1.alloc (.map #[] 0)) := Fr.alloc _
  have m2 := MapAt.new (Value.int .u64) w1
  obtain ⟨w2, hw2⟩ : ∃ w2, w1.alloc (.map #[] 0) = w2 := ⟨_, rfl⟩
  have s2 : w2.heap.size = w1.heap.size + 1 := by rw [← hw2]; exact alloc_sz _ _
  rw [hw2] at f2 m2
  have f3 : Fr [] w2 (w2.alloc (.cells #[.map (some w.heap.size), .map (some w1.heap.size)] 87)) := Fr.alloc _
  have b3 := Blk.new w2 [.map (some w.heap.size), .map (some w1.heap.size)] 87
  change Blk (w2.alloc (.cells #[.map (some w.heap.size), .map (some w1.heap.size)] 87)) _ _ _ at b3
  obtain ⟨w3, hw3⟩ : ∃ w3, w2.alloc (.cells #[.map (some w.heap.size), .map (some w1.heap.size)] 87) = w3 := ⟨_, rfl⟩
  have s3 : w3.heap.size = w2.heap.size + 1 := by rw [← hw3]; exact alloc_sz _ _
  rw [hw3] at f3 b3
  have hb : w2.heap.size = w.heap.size + 2 := by omega
  rw [hb] at b3
  refine ⟨w3, fun y => w.heap.size ≤ y ∧ y < w.heap.size + 3, g19_call ?_, ⟨w.heap.size, w1.heap.size, [], rfl, ⟨b3, (m1.fr f2 (by simp)).fr f3 (by simp), m2.fr f3 (by simp), ⟨fun i h => absurd h (by simp), fun i j h => absurd h (by simp)⟩, by omega, by omega, by omega, by omega, fun i h => absurd h (by simp), fun y hy => by omega⟩⟩, (Fr.mono (Fr.app (Fr.app f1 f2) f3) (by have z0_ := Fr.size f1; have z1_ := Fr.size f2; have z2_ := Fr.size f3; intro y_ hy_ hl_; grind [blkOf])), fun y hy => hy.1⟩
  unfold g19
  simp only [hw1, hw2, hw3, hb]

section
variable {w : World} {D : Nat → Prop} {b : Nat} {T : List (Int × TV)} {ps : List (Int × Value)}
theorem keyOk_i : KeyOk (.int .i64) (Value.int .i64) := keyOk_int .i64
theorem keyOk_u : KeyOk (.int .u64) (Value.int .u64) := keyOk_int .u64
theorem look1 {r : Nat} {l : List (Int × Value)} (h : MapAt (Value.int .i64) w r l) (n : Int) : mLook (.int .i64) w (some r) (.int .i64 n) = some (kget l n) := h.look keyOk_i n

/-- the team of a group; made, if there is none -/
theorem team59 {r1 r2 : Nat} {fs : List GE} (h : StR w D b r1 r2 fs ps) (n : Int) :
    ∃ w' D' fs' i, ∃ hi : i < fs'.length, callF Try.prog 59 #[.pointer (some ⟨b, 0, none⟩), .int .i64 n] w = some (.pointer (some ⟨fs'[i].p, 0, none⟩), w') ∧ StR w' D' b r1 r2 fs' ps ∧ fs'[i].n = n ∧
      (∀ g : TV → TV, kups (fs.map GE.ab) n (fun o => g (o.getD tv0)) = (fs'.map GE.ab).set i (n, g fs'[i].v)) ∧ Chg D w w' D' := by
  have c0 : w.cell? ⟨b, 0, none⟩ = some (.map (some r1)) := h.blk.cell 0
  have e1 := look1 h.m1 n
  rcases keysOf_get fs n with ⟨i, hi, h1, h2, h3, h4⟩ | ⟨h1, h2, h3, h4⟩
  · rw [h2] at e1
    refine ⟨w, D, fs, i, hi, g59_call ?_, h, h1, fun g => by rw [h4]; rfl, Chg.refl _ _⟩
    unfold g59
    simp only [c0, e1, Option.getD_some, obs, asP_pointer, asB_bool, asI_int, asS_string, asSl_slice, asM_map, asTup0, asTup1, asTup2, asTup3, asTup4, asTup5, asTup6, asTup7, asTup8, asTup9, asAgg2, asAgg3, asAgg4, asAgg5, asAgg6, asAgg7, asAgg8, asAgg9, asAgg12, getD0, getD1, getD2, getD3, getD4, getD5, getD6, getD7, getD8, getD9, getD10, getD11, getD12, getD13, getD14, getD15, getD16, getD17, getD18, getD19, Bool.not_true, Bool.not_false, Bool.false_eq_true, Bool.true_eq_false, ↓reduceIte, decide_true, decide_false, Option.isNone_some, Option.isNone_none, Option.isSome_some, Option.isSome_none, beq_self_eq_true, bne_self_eq_false, Bool.and_true, Bool.true_and, Bool.and_false, Bool.false_and, not_true_eq_false, not_false_eq_true]
  · rw [h1] at e1
    have f1 : Fr [] w (w.alloc (.map #[] 0)) := Fr.alloc _
    have m1 := MapAt.new (Value.int .i64) w
    obtain ⟨w1, hw1⟩ : ∃ w1, w.alloc (.map #[] 0) = w1 := ⟨_, rfl⟩
    have s1 : w1.heap.size = w.heap.size + 1 := by rw [← hw1]; exact alloc_sz _ _
    rw [hw1] at f1 m1
    have f2 : Fr [] w1 (w1.alloc (.cells #[.int .i64 0, .slice none 0 0, .map (some w.heap.size)] 92)) := Fr.alloc _
    have b2 := Blk.new w1 (⟨n, w1.heap.size, w.heap.size, (none, 0, 0), tv0⟩ : GE).cs 92
    change Blk (w1.alloc (.cells #[.int .i64 0, .slice none 0 0, .map (some w.heap.size)] 92)) _ _ _ at b2
    obtain ⟨w2, hw2⟩ : ∃ w2, w1.alloc (.cells #[.int .i64 0, .slice none 0 0, .map (some w.heap.size)] 92) = w2 := ⟨_, rfl⟩
    have s2 : w2.heap.size = w1.heap.size + 1 := by rw [← hw2]; exact alloc_sz _ _
    rw [hw2] at f2 b2
    have F2 : Fr [] w w2 := (Fr.mono (Fr.app f1 f2) (by have z0_ := Fr.size f1; have z1_ := Fr.size f2; intro y_ hy_ hl_; grind [blkOf]))
    have h2' := h.fr F2 (by simp)
    obtain ⟨w3, e3, m3, f3⟩ := h2'.m1.upd keyOk_i n (.pointer (some ⟨w1.heap.size, 0, none⟩))
    have c2 : w2.cell? ⟨b, 0, none⟩ = some (.map (some r1)) := h2'.blk.cell 0
    have hlt1 := h.lt r1 h.d1
    have hlt2 := h.lt r2 h.d2
    have hltb := h.lt b h.db
    have mo := (m1.fr f2 (by simp)).fr f3 (by simp; omega)
    have z3 := f3.size
    let f : GE := ⟨n, w1.heap.size, w.heap.size, (none, 0, 0), tv0⟩
    have ok : GeOk w3 (fun y => D y ∨ w.heap.size ≤ y ∧ y < w.heap.size + 2) f :=
      ⟨b2.fr f3 (by simp; omega), Own.nil _ _ _, mo, ⟨.inr (by show w.heap.size ≤ w1.heap.size ∧ w1.heap.size < w.heap.size + 2; omega), .inr (by show w.heap.size ≤ w.heap.size ∧ w.heap.size < w.heap.size + 2; omega), by simp [f, blkOf]⟩, by simp [f, tv0]⟩
    have F3 : Fr [r1] w w3 := (F2.app f3).mono (by intro y hy _; simpa using hy)
    have hg := h.gs.push (w' := w3) (D' := fun y => D y ∨ w.heap.size ≤ y ∧ y < w.heap.size + 2) (f := f) h3 F3 (by
      intro y hy j hj
      simp at hy
      subst hy
      exact ⟨fun e => h.m1.ne_blk (h.gs.ok j hj).blk e, fun e => (h.om j hj).1 e.symm, h.m1.notin (h.gs.ok j hj).own⟩) (fun _ => .inl) ok (by show w.heap.size ≤ w1.heap.size; omega) (Nat.le_refl _)
    have hk : insA (keysOf fs) n (.pointer (some ⟨w1.heap.size, 0, none⟩)) = keysOf (fs ++ [f]) := by
      rw [insA_new h1]; simp [keysOf, f]
    rw [hk] at m3
    have hnb : r1 ≠ b := h.m1.ne_blk h.blk
    refine ⟨w3, fun y => D y ∨ w.heap.size ≤ y ∧ y < w.heap.size + 2, fs ++ [f], fs.length, by simp, g59_call ?_, ⟨h2'.blk.fr f3 (by simpa using hnb.symm), m3, h2'.m2.fr f3 (by simpa using h.ne.symm), hg, .inl h.d1, .inl h.d2, .inl h.db, h.ne, ?_, ?_⟩, by simp [f], fun g => ?_, ⟨⟨[r1], F3, by simpa using h.d1⟩, fun _ => .inl, fun y hy => by rcases hy with hy | hy; exact .inl hy; exact .inr hy.1⟩⟩
    · have hfi : (fs ++ [f])[fs.length]'(by simp) = f := by simp
      rw [hfi]
      unfold g59
      simp only [hw1, hw2]
      simp only [c0, e1, Option.getD_none, c2, e3, obs, asP_pointer, asB_bool, asI_int, asS_string, asSl_slice, asM_map, asTup0, asTup1, asTup2, asTup3, asTup4, asTup5, asTup6, asTup7, asTup8, asTup9, asAgg2, asAgg3, asAgg4, asAgg5, asAgg6, asAgg7, asAgg8, asAgg9, asAgg12, getD0, getD1, getD2, getD3, getD4, getD5, getD6, getD7, getD8, getD9, getD10, getD11, getD12, getD13, getD14, getD15, getD16, getD17, getD18, getD19, Bool.not_true, Bool.not_false, Bool.false_eq_true, Bool.true_eq_false, ↓reduceIte, decide_true, decide_false, Option.isNone_some, Option.isNone_none, Option.isSome_some, Option.isSome_none, beq_self_eq_true, bne_self_eq_false, Bool.and_true, Bool.true_and, Bool.and_false, Bool.false_and, not_true_eq_false, not_false_eq_true]
      rfl
    · intro i hi
      rw [List.getElem_append]
      split
      · exact h.om i _
      · have : i - fs.length = 0 := by simp at hi; omega
        simp only [this, List.getElem_cons_zero]
        exact ⟨by show w.heap.size ≠ r1; omega, by show w.heap.size ≠ r2; omega⟩
    · intro y hy
      rcases hy with hy | hy
      · have := h.lt y hy; omega
      · omega
    · rw [h4]
      simp [GE.ab, f]
end
end Go.Proofs.Ytcakijeoeankfaa
