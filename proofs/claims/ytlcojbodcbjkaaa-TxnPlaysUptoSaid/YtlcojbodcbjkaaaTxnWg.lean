/-
  TxnWg: lemmas on what Go functions of this seat come to (for whatever arguments, as each says). No condition but those that stand in each lemma.
-/
import Derived.Test.YtlcojbodcbjkaaaTxnL3
import Derived.Test.YtlcojbodcbjkaaaTxnMc
namespace Go.Proofs.Ytlcojbodcbjkaaa
open Go Go.Ev
set_option maxRecDepth 100000
set_option linter.unusedVariables false
set_option linter.unusedSimpArgs false

/-- the state of the law: the table, the list of records, and that the one says what the other does -/
structure PS (W x : World) (tb : Nat) (D DL : Nat → Prop) (A : List (Int × TV)) (ql : Sh) (L : List (RV × Sh)) : Prop where
  tab : Tb x D tb A
  rl : RL x DL ql L
  says : Says A (recs L)
  ap : ∀ y, D y → ¬ DL y
  fr : Fr [] W x
  hD : ∀ y, D y → W.heap.size ≤ y
  hL : ∀ y, DL y → W.heap.size ≤ y
  sum : sumP (recs L) ≤ 100000000

section
variable {W x : World} {tb : Nat} {D DL : Nat → Prop} {A : List (Int × TV)} {ql : Sh} {L : List (RV × Sh)}
theorem PS.step (h : PS W x tb D DL A ql L) {S : List Nat} {x' : World} (f : Fr S x x') (hS : ∀ y ∈ S, W.heap.size ≤ y ∧ ¬ D y ∧ ¬ DL y) : PS W x' tb D DL A ql L :=
  ⟨h.tab.fr f (fun y hy _ => (hS y hy).2.1), h.rl.fr f (fun y hy _ => (hS y hy).2.2), h.says, h.ap, (h.fr.app f).mono (by intro y hy hl; simp at hy; have := (hS y hy).1; omega), h.hD, h.hL, h.sum⟩
theorem PS.len (h : PS W x tb D DL A ql L) (n : Int) : (tvOf A n).parts.length ≤ 100000000 := by
  rw [h.says n]
  have := txOf_len (recs L) n
  have := h.sum
  omega
theorem PS.lenM (h : PS W x tb D DL A ql L) (n : Int) : ∀ v, kget A n = some v → v.parts.length ≤ 1000000000 := by
  intro v hv
  have : tvOf A n = v := by unfold tvOf; rw [hv]; rfl
  rw [← this]
  have := h.len n
  omega

/-- each element of a list becomes 9 -/
def nineB (T c X : Nat) (q : Sh) (s : Int) (w : World) : Option (Exit × Int × World) :=
  if (decide ((s : Int) < (q.2.1 : Int))) = true then
    ((World.cell? w (Addr.add (⟨T, 0, none⟩) c)).bind fun v => (asSl v).bind fun q2 => (idxA q2.1 q2.2.1 1 s).bind fun a => (st1 w a (.int .i64 9)).bind fun w' => some (.normal, (IntKind.i64.wrap (s + 1)), w'))
  else some ((.exit X), s, w)
theorem nines {x : World} {T c X : Nat} {q : Sh} {cs xs : List Value} {Ty : TypeId} (hb : Blk x T cs Ty) (hc : cs[c]? = some (.slice q.1 q.2.1 q.2.2)) (ho : Own x 3 1 q xs) (hT : T ∉ blkOf q) :
    ∃ t x', loopS (nineB T c X q) 0 x = some (.exit X, t, x') ∧ Fr (blkOf q) x x' := by
  have hml : maxLen = 9223372036854775807 := by decide
  have hm := ho.max
  have hle := ho.le
  obtain ⟨t, x', g, _, _, _, f⟩ := loopS_countX X (b := nineB T c X q) (I := fun k s y => s = (k : Int) ∧ (∃ ys, Own y 3 1 q ys ∧ ys.length = q.2.1) ∧ Blk y T cs Ty ∧ Fr (blkOf q) x y) (n := q.2.1)
    (fun k s y hk ⟨hs, ⟨ys, o, hl⟩, b, f⟩ => by
      subst hs
      have k1 : decide ((k : Int) < (q.2.1 : Int)) = true := by simp; omega
      have cc : y.cell? ⟨T, c, none⟩ = some (.slice q.1 q.2.1 q.2.2) := by rw [b.cell c]; exact hc
      obtain ⟨g, off, h1, h2⟩ := o.idx hk
      obtain ⟨e, o', f'⟩ := o.set h1 (k := k) (by omega) (u := .int .i64 9) rfl
      have h2' : idxA q.1 q.2.1 1 (k : Int) = some ⟨g, off + k, none⟩ := by simpa using h2
      have hw := wrap_succ (n := k) (by omega)
      refine ⟨_, _, ?_, rfl, ⟨_, o', by simp [hl]⟩, b.fr f' hT, (f.app f').mono (by intro z hz hl; simpa using hz)⟩
      unfold nineB
      simp only [k1, addr_add, Nat.zero_add, cc, h2', e, hw, obs, asP_pointer, asB_bool, asI_int, asS_string, asSl_slice, asM_map, asTup0, asTup1, asTup2, asTup3, asTup4, asTup5, asTup6, asTup7, asTup8, asTup9, asAgg2, asAgg3, asAgg4, asAgg5, asAgg6, asAgg7, asAgg8, asAgg9, asAgg12, getD0, getD1, getD2, getD3, getD4, getD5, getD6, getD7, getD8, getD9, getD10, getD11, getD12, getD13, getD14, getD15, getD16, getD17, getD18, getD19, Bool.not_true, Bool.not_false, Bool.false_eq_true, Bool.true_eq_false, ↓reduceIte, decide_true, decide_false, Option.isNone_some, Option.isNone_none, Option.isSome_some, Option.isSome_none, beq_self_eq_true, bne_self_eq_false, Bool.and_true, Bool.true_and, Bool.and_false, Bool.false_and, not_true_eq_false, not_false_eq_true])
    (fun s y ⟨hs, _⟩ => by
      subst hs
      unfold nineB
      have k1 : decide ((q.2.1 : Int) < (q.2.1 : Int)) = false := by simp
      simp only [k1, Bool.false_eq_true, if_false]) (k := 0) (s := 0) (w := x) (Nat.zero_le _) ⟨rfl, ⟨xs, ho, by have := ho.len; simpa using this⟩, hb, Fr.refl _ _⟩
  exact ⟨t, x', g, f⟩
end

/-! ### the names of a call: copy 117 -/
section
variable {W x : World} {tb : Nat} {D DL : Nat → Prop} {A : List (Int × TV)} {ql : Sh} {L : List (RV × Sh)} {r : Value × World} {u0 qs : Sh} {f0 f : Bool} {k0 : Int}
theorem tr117 (h : PS W x tb D DL A ql L) {n0 n1 : Int} (hp : Blk x r.2.heap.size [.int .i64 n0, .int .i64 n1] 3) {k : Nat} (hk : k < 2) :
    ∃ x', g3_l117_b r (some ⟨tb, 0, none⟩) ql u0 (f0, qs, k0) (f, (k : Int)) x = some (.normal, (f, ((k + 1 : Nat) : Int)), x') ∧ PS W x' tb D DL A ql L ∧ Blk x' r.2.heap.size [.int .i64 n0, .int .i64 n1] 3 := by
  have z0 := h.fr.size
  obtain ⟨n, i1, c1⟩ : ∃ n, idxA (some ⟨r.2.heap.size, 0, none⟩) 2 1 (k : Int) = some ⟨r.2.heap.size, k, none⟩ ∧ x.cell? ⟨r.2.heap.size, k, none⟩ = some (.int .i64 n) := by
    have i : idxA (some ⟨r.2.heap.size, 0, none⟩) 2 1 (k : Int) = some ⟨r.2.heap.size, k, none⟩ := by
      unfold idxA
      rw [if_pos (by omega)]
      simp [addr_add]
    match k, hk with
    | 0, _ => exact ⟨n0, i, hp.cell 0⟩
    | 1, _ => exact ⟨n1, i, hp.cell 1⟩
  obtain ⟨q1, x1, e1, f1, o1, m1⟩ := tx21 h.tab n (h.lenM n)
  obtain ⟨x2, s2, b2, f2⟩ := newT2 x1 (tvOf A n) q1
  have fd := Fr.drew [] x2
  have F2 : Fr [] x x2.drew := (Fr.mono (Fr.app (Fr.app f1 f2) fd) (by have z0_ := Fr.size f1; have z1_ := Fr.size f2; have z2_ := Fr.size fd; intro y_ hy_ hl_; grind [blkOf]))
  have h2 := h.step F2 (by simp)
  obtain ⟨q3, x3, e3, f3, o3, m3⟩ := tx23 h2.rl n h2.sum
  have hsn := h.len n
  rw [← h.says n] at e3 o3
  obtain ⟨t, ht⟩ : ∃ t, tvOf A n = t := ⟨_, rfl⟩
  rw [ht] at e1 o1 s2 b2 e3 o3 hsn
  have b2d := b2.fr fd (by simp)
  have l2 := b2d.ldN (n := 8) rfl
  have b3 := b2d.fr f3 (by simp)
  have l3 := b3.ldN (n := 8) rfl
  have O1 := ((o1.fr f2 (by simp)).fr fd (by simp)).fr f3 (by simp)
  obtain ⟨x4, e4, f4⟩ := sameTx22 x3 t O1.slC o3.slC (by omega)
  have O4 := O1.fr f4 (by simp)
  have b4 := b3.fr f4 (by simp)
  have nT : x1.heap.size ∉ blkOf q1 := b4.notin O4 (by decide)
  have c4 : x4.cell? ⟨x1.heap.size, 4, none⟩ = some (.slice q1.1 q1.2.1 q1.2.2) := b4.cell 4
  obtain ⟨t5, x5, g5, f5⟩ := nines (X := 7) b4 (c := 4) rfl O4 nT
  have h4 := (h2.step f3 (by simp)).step f4 (by simp)
  have lt := h.tab.lt
  have ltL := h.rl.lt
  have h5 := h4.step f5 (fun y hy => ⟨by have := m1 y hy; omega, fun hd => by have := m1 y hy; have := lt y hd; omega, fun hd => by have := m1 y hy; have := ltL y hd; omega⟩)
  have hp4 : Blk x4 r.2.heap.size [.int .i64 n0, .int .i64 n1] 3 := ((hp.fr F2 (by simp)).fr f3 (by simp)).fr f4 (by simp)
  have lp := hp.lt
  have hp5 := hp4.fr f5 (fun hm => by have := m1 _ hm; omega)
  refine ⟨x5, ?_, h5, hp5⟩
  have k1 : decide ((k : Int) < 2) = true := by simp; omega
  have hw := wrap_succ (n := k) (by omega)
  simp only [TV.arg] at e1 e3 e4
  simp only [TV.cs] at l2 l3
  unfold g3_l117_b
  simp only [k1, i1, c1, e1, s2, addr_add, Nat.zero_add, l2, e3, l3, ite_self, obs, asP_pointer, asB_bool, asI_int, asS_string, asSl_slice, asM_map, asTup0, asTup1, asTup2, asTup3, asTup4, asTup5, asTup6, asTup7, asTup8, asTup9, asAgg2, asAgg3, asAgg4, asAgg5, asAgg6, asAgg7, asAgg8, asAgg9, asAgg12, getD0, getD1, getD2, getD3, getD4, getD5, getD6, getD7, getD8, getD9, getD10, getD11, getD12, getD13, getD14, getD15, getD16, getD17, getD18, getD19, Bool.not_true, Bool.not_false, Bool.false_eq_true, Bool.true_eq_false, ↓reduceIte, decide_true, decide_false, Option.isNone_some, Option.isNone_none, Option.isSome_some, Option.isSome_none, beq_self_eq_true, bne_self_eq_false, Bool.and_true, Bool.true_and, Bool.and_false, Bool.false_and, not_true_eq_false, not_false_eq_true]
  unfold g3_j167
  simp only [e4, addr_add, Nat.zero_add, c4, obs, asP_pointer, asB_bool, asI_int, asS_string, asSl_slice, asM_map, asTup0, asTup1, asTup2, asTup3, asTup4, asTup5, asTup6, asTup7, asTup8, asTup9, asAgg2, asAgg3, asAgg4, asAgg5, asAgg6, asAgg7, asAgg8, asAgg9, asAgg12, getD0, getD1, getD2, getD3, getD4, getD5, getD6, getD7, getD8, getD9, getD10, getD11, getD12, getD13, getD14, getD15, getD16, getD17, getD18, getD19, Bool.not_true, Bool.not_false, Bool.false_eq_true, Bool.true_eq_false, ↓reduceIte, decide_true, decide_false, Option.isNone_some, Option.isNone_none, Option.isSome_some, Option.isSome_none, beq_self_eq_true, bne_self_eq_false, Bool.and_true, Bool.true_and, Bool.and_false, Bool.false_and, not_true_eq_false, not_false_eq_true]
  refine (g3_l201_x7_of (t := t5) (w' := x5) ?_).trans ?_
  · exact g5
  · unfold g3_l201_x7
    simp only [hw, obs, asP_pointer, asB_bool, asI_int, asS_string, asSl_slice, asM_map, asTup0, asTup1, asTup2, asTup3, asTup4, asTup5, asTup6, asTup7, asTup8, asTup9, asAgg2, asAgg3, asAgg4, asAgg5, asAgg6, asAgg7, asAgg8, asAgg9, asAgg12, getD0, getD1, getD2, getD3, getD4, getD5, getD6, getD7, getD8, getD9, getD10, getD11, getD12, getD13, getD14, getD15, getD16, getD17, getD18, getD19, Bool.not_true, Bool.not_false, Bool.false_eq_true, Bool.true_eq_false, ↓reduceIte, decide_true, decide_false, Option.isNone_some, Option.isNone_none, Option.isSome_some, Option.isSome_none, beq_self_eq_true, bne_self_eq_false, Bool.and_true, Bool.true_and, Bool.and_false, Bool.false_and, not_true_eq_false, not_false_eq_true]
theorem tl117 (h : PS W x tb D DL A ql L) {n0 n1 : Int} (hp : Blk x r.2.heap.size [.int .i64 n0, .int .i64 n1] 3) :
    ∃ x', g3_l117 (some ⟨tb, 0, none⟩) ql u0 (f0, qs, k0) r (f, 0) x = some (.normal, (f, ql, IntKind.i64.wrap (k0 + 1)), x') ∧ PS W x' tb D DL A ql L := by
  obtain ⟨t, x', g1, rfl, h', _⟩ := loopS_countX 5 (b := g3_l117_b r (some ⟨tb, 0, none⟩) ql u0 (f0, qs, k0)) (I := fun k s y => s = (f, (k : Int)) ∧ PS W y tb D DL A ql L ∧ Blk y r.2.heap.size [.int .i64 n0, .int .i64 n1] 3) (n := 2)
    (fun k s y hk ⟨hs, h, hp⟩ => by
      subst hs
      obtain ⟨x', e, h', hp'⟩ := tr117 h hp hk
      exact ⟨_, x', e, rfl, h', hp'⟩)
    (fun s y ⟨hs, _⟩ => by
      subst hs
      unfold g3_l117_b
      rfl) (k := 0) (s := (f, 0)) (w := x) (by omega) ⟨rfl, h, hp⟩
  refine ⟨x', ?_, h'⟩
  rw [g3_l117_x5_of g1]
  unfold g3_l117_x5
  rfl
end

/-! ### the names of a call: copy 302 -/
section
variable {W x : World} {tb : Nat} {D DL : Nat → Prop} {A : List (Int × TV)} {ql : Sh} {L : List (RV × Sh)} {r : Value × World} {u0 qs : Sh} {f0 f : Bool} {k0 : Int}
theorem tr302 (h : PS W x tb D DL A ql L) {n0 n1 : Int} (hp : Blk x r.2.heap.size [.int .i64 n0, .int .i64 n1] 3) {k : Nat} (hk : k < 2) :
    ∃ x', g3_l302_b r (some ⟨tb, 0, none⟩) ql u0 (f0, qs, k0) (f, (k : Int)) x = some (.normal, (f, ((k + 1 : Nat) : Int)), x') ∧ PS W x' tb D DL A ql L ∧ Blk x' r.2.heap.size [.int .i64 n0, .int .i64 n1] 3 := by
  have z0 := h.fr.size
  obtain ⟨n, i1, c1⟩ : ∃ n, idxA (some ⟨r.2.heap.size, 0, none⟩) 2 1 (k : Int) = some ⟨r.2.heap.size, k, none⟩ ∧ x.cell? ⟨r.2.heap.size, k, none⟩ = some (.int .i64 n) := by
    have i : idxA (some ⟨r.2.heap.size, 0, none⟩) 2 1 (k : Int) = some ⟨r.2.heap.size, k, none⟩ := by
      unfold idxA
      rw [if_pos (by omega)]
      simp [addr_add]
    match k, hk with
    | 0, _ => exact ⟨n0, i, hp.cell 0⟩
    | 1, _ => exact ⟨n1, i, hp.cell 1⟩
  obtain ⟨q1, x1, e1, f1, o1, m1⟩ := tx21 h.tab n (h.lenM n)
  obtain ⟨x2, s2, b2, f2⟩ := newT2 x1 (tvOf A n) q1
  have fd := Fr.drew [] x2
  have F2 : Fr [] x x2.drew := (Fr.mono (Fr.app (Fr.app f1 f2) fd) (by have z0_ := Fr.size f1; have z1_ := Fr.size f2; have z2_ := Fr.size fd; intro y_ hy_ hl_; grind [blkOf]))
  have h2 := h.step F2 (by simp)
  obtain ⟨q3, x3, e3, f3, o3, m3⟩ := tx23 h2.rl n h2.sum
  have hsn := h.len n
  rw [← h.says n] at e3 o3
  obtain ⟨t, ht⟩ : ∃ t, tvOf A n = t := ⟨_, rfl⟩
  rw [ht] at e1 o1 s2 b2 e3 o3 hsn
  have b2d := b2.fr fd (by simp)
  have l2 := b2d.ldN (n := 8) rfl
  have b3 := b2d.fr f3 (by simp)
  have l3 := b3.ldN (n := 8) rfl
  have O1 := ((o1.fr f2 (by simp)).fr fd (by simp)).fr f3 (by simp)
  obtain ⟨x4, e4, f4⟩ := sameTx22 x3 t O1.slC o3.slC (by omega)
  have O4 := O1.fr f4 (by simp)
  have b4 := b3.fr f4 (by simp)
  have nT : x1.heap.size ∉ blkOf q1 := b4.notin O4 (by decide)
  have c4 : x4.cell? ⟨x1.heap.size, 4, none⟩ = some (.slice q1.1 q1.2.1 q1.2.2) := b4.cell 4
  obtain ⟨t5, x5, g5, f5⟩ := nines (X := 7) b4 (c := 4) rfl O4 nT
  have h4 := (h2.step f3 (by simp)).step f4 (by simp)
  have lt := h.tab.lt
  have ltL := h.rl.lt
  have h5 := h4.step f5 (fun y hy => ⟨by have := m1 y hy; omega, fun hd => by have := m1 y hy; have := lt y hd; omega, fun hd => by have := m1 y hy; have := ltL y hd; omega⟩)
  have hp4 : Blk x4 r.2.heap.size [.int .i64 n0, .int .i64 n1] 3 := ((hp.fr F2 (by simp)).fr f3 (by simp)).fr f4 (by simp)
  have lp := hp.lt
  have hp5 := hp4.fr f5 (fun hm => by have := m1 _ hm; omega)
  refine ⟨x5, ?_, h5, hp5⟩
  have k1 : decide ((k : Int) < 2) = true := by simp; omega
  have hw := wrap_succ (n := k) (by omega)
  simp only [TV.arg] at e1 e3 e4
  simp only [TV.cs] at l2 l3
  unfold g3_l302_b
  simp only [k1, i1, c1, e1, s2, addr_add, Nat.zero_add, l2, e3, l3, ite_self, obs, asP_pointer, asB_bool, asI_int, asS_string, asSl_slice, asM_map, asTup0, asTup1, asTup2, asTup3, asTup4, asTup5, asTup6, asTup7, asTup8, asTup9, asAgg2, asAgg3, asAgg4, asAgg5, asAgg6, asAgg7, asAgg8, asAgg9, asAgg12, getD0, getD1, getD2, getD3, getD4, getD5, getD6, getD7, getD8, getD9, getD10, getD11, getD12, getD13, getD14, getD15, getD16, getD17, getD18, getD19, Bool.not_true, Bool.not_false, Bool.false_eq_true, Bool.true_eq_false, ↓reduceIte, decide_true, decide_false, Option.isNone_some, Option.isNone_none, Option.isSome_some, Option.isSome_none, beq_self_eq_true, bne_self_eq_false, Bool.and_true, Bool.true_and, Bool.and_false, Bool.false_and, not_true_eq_false, not_false_eq_true]
  unfold g3_j352
  simp only [e4, addr_add, Nat.zero_add, c4, obs, asP_pointer, asB_bool, asI_int, asS_string, asSl_slice, asM_map, asTup0, asTup1, asTup2, asTup3, asTup4, asTup5, asTup6, asTup7, asTup8, asTup9, asAgg2, asAgg3, asAgg4, asAgg5, asAgg6, asAgg7, asAgg8, asAgg9, asAgg12, getD0, getD1, getD2, getD3, getD4, getD5, getD6, getD7, getD8, getD9, getD10, getD11, getD12, getD13, getD14, getD15, getD16, getD17, getD18, getD19, Bool.not_true, Bool.not_false, Bool.false_eq_true, Bool.true_eq_false, ↓reduceIte, decide_true, decide_false, Option.isNone_some, Option.isNone_none, Option.isSome_some, Option.isSome_none, beq_self_eq_true, bne_self_eq_false, Bool.and_true, Bool.true_and, Bool.and_false, Bool.false_and, not_true_eq_false, not_false_eq_true]
  refine (g3_l386_x7_of (t := t5) (w' := x5) ?_).trans ?_
  · exact g5
  · unfold g3_l386_x7
    simp only [hw, obs, asP_pointer, asB_bool, asI_int, asS_string, asSl_slice, asM_map, asTup0, asTup1, asTup2, asTup3, asTup4, asTup5, asTup6, asTup7, asTup8, asTup9, asAgg2, asAgg3, asAgg4, asAgg5, asAgg6, asAgg7, asAgg8, asAgg9, asAgg12, getD0, getD1, getD2, getD3, getD4, getD5, getD6, getD7, getD8, getD9, getD10, getD11, getD12, getD13, getD14, getD15, getD16, getD17, getD18, getD19, Bool.not_true, Bool.not_false, Bool.false_eq_true, Bool.true_eq_false, ↓reduceIte, decide_true, decide_false, Option.isNone_some, Option.isNone_none, Option.isSome_some, Option.isSome_none, beq_self_eq_true, bne_self_eq_false, Bool.and_true, Bool.true_and, Bool.and_false, Bool.false_and, not_true_eq_false, not_false_eq_true]
theorem tl302 (h : PS W x tb D DL A ql L) {n0 n1 : Int} (hp : Blk x r.2.heap.size [.int .i64 n0, .int .i64 n1] 3) :
    ∃ x', g3_l302 (some ⟨tb, 0, none⟩) ql u0 (f0, qs, k0) r (f, 0) x = some (.normal, (f, ql, IntKind.i64.wrap (k0 + 1)), x') ∧ PS W x' tb D DL A ql L := by
  obtain ⟨t, x', g1, rfl, h', _⟩ := loopS_countX 5 (b := g3_l302_b r (some ⟨tb, 0, none⟩) ql u0 (f0, qs, k0)) (I := fun k s y => s = (f, (k : Int)) ∧ PS W y tb D DL A ql L ∧ Blk y r.2.heap.size [.int .i64 n0, .int .i64 n1] 3) (n := 2)
    (fun k s y hk ⟨hs, h, hp⟩ => by
      subst hs
      obtain ⟨x', e, h', hp'⟩ := tr302 h hp hk
      exact ⟨_, x', e, rfl, h', hp'⟩)
    (fun s y ⟨hs, _⟩ => by
      subst hs
      unfold g3_l302_b
      rfl) (k := 0) (s := (f, 0)) (w := x) (by omega) ⟨rfl, h, hp⟩
  refine ⟨x', ?_, h'⟩
  rw [g3_l302_x5_of g1]
  unfold g3_l302_x5
  rfl
end

/-! ### the names of a call: copy 409 -/
section
variable {W x : World} {tb : Nat} {D DL : Nat → Prop} {A : List (Int × TV)} {ql : Sh} {L : List (RV × Sh)} {r : Value × World} {u0 qs : Sh} {f0 f : Bool} {k0 : Int}
theorem tr409 (h : PS W x tb D DL A ql L) {n0 n1 : Int} (hp : Blk x r.2.heap.size [.int .i64 n0, .int .i64 n1] 3) {k : Nat} (hk : k < 2) :
    ∃ x', g3_l409_b r (some ⟨tb, 0, none⟩) (f0, ql, k0) u0 (f, (k : Int)) x = some (.normal, (f, ((k + 1 : Nat) : Int)), x') ∧ PS W x' tb D DL A ql L ∧ Blk x' r.2.heap.size [.int .i64 n0, .int .i64 n1] 3 := by
  have z0 := h.fr.size
  obtain ⟨n, i1, c1⟩ : ∃ n, idxA (some ⟨r.2.heap.size, 0, none⟩) 2 1 (k : Int) = some ⟨r.2.heap.size, k, none⟩ ∧ x.cell? ⟨r.2.heap.size, k, none⟩ = some (.int .i64 n) := by
    have i : idxA (some ⟨r.2.heap.size, 0, none⟩) 2 1 (k : Int) = some ⟨r.2.heap.size, k, none⟩ := by
      unfold idxA
      rw [if_pos (by omega)]
      simp [addr_add]
    match k, hk with
    | 0, _ => exact ⟨n0, i, hp.cell 0⟩
    | 1, _ => exact ⟨n1, i, hp.cell 1⟩
  obtain ⟨q1, x1, e1, f1, o1, m1⟩ := tx21 h.tab n (h.lenM n)
  obtain ⟨x2, s2, b2, f2⟩ := newT2 x1 (tvOf A n) q1
  have fd := Fr.drew [] x2
  have F2 : Fr [] x x2.drew := (Fr.mono (Fr.app (Fr.app f1 f2) fd) (by have z0_ := Fr.size f1; have z1_ := Fr.size f2; have z2_ := Fr.size fd; intro y_ hy_ hl_; grind [blkOf]))
  have h2 := h.step F2 (by simp)
  obtain ⟨q3, x3, e3, f3, o3, m3⟩ := tx23 h2.rl n h2.sum
  have hsn := h.len n
  rw [← h.says n] at e3 o3
  obtain ⟨t, ht⟩ : ∃ t, tvOf A n = t := ⟨_, rfl⟩
  rw [ht] at e1 o1 s2 b2 e3 o3 hsn
  have b2d := b2.fr fd (by simp)
  have l2 := b2d.ldN (n := 8) rfl
  have b3 := b2d.fr f3 (by simp)
  have l3 := b3.ldN (n := 8) rfl
  have O1 := ((o1.fr f2 (by simp)).fr fd (by simp)).fr f3 (by simp)
  obtain ⟨x4, e4, f4⟩ := sameTx22 x3 t O1.slC o3.slC (by omega)
  have O4 := O1.fr f4 (by simp)
  have b4 := b3.fr f4 (by simp)
  have nT : x1.heap.size ∉ blkOf q1 := b4.notin O4 (by decide)
  have c4 : x4.cell? ⟨x1.heap.size, 4, none⟩ = some (.slice q1.1 q1.2.1 q1.2.2) := b4.cell 4
  obtain ⟨t5, x5, g5, f5⟩ := nines (X := 7) b4 (c := 4) rfl O4 nT
  have h4 := (h2.step f3 (by simp)).step f4 (by simp)
  have lt := h.tab.lt
  have ltL := h.rl.lt
  have h5 := h4.step f5 (fun y hy => ⟨by have := m1 y hy; omega, fun hd => by have := m1 y hy; have := lt y hd; omega, fun hd => by have := m1 y hy; have := ltL y hd; omega⟩)
  have hp4 : Blk x4 r.2.heap.size [.int .i64 n0, .int .i64 n1] 3 := ((hp.fr F2 (by simp)).fr f3 (by simp)).fr f4 (by simp)
  have lp := hp.lt
  have hp5 := hp4.fr f5 (fun hm => by have := m1 _ hm; omega)
  refine ⟨x5, ?_, h5, hp5⟩
  have k1 : decide ((k : Int) < 2) = true := by simp; omega
  have hw := wrap_succ (n := k) (by omega)
  simp only [TV.arg] at e1 e3 e4
  simp only [TV.cs] at l2 l3
  unfold g3_l409_b
  simp only [k1, i1, c1, e1, s2, addr_add, Nat.zero_add, l2, e3, l3, ite_self, obs, asP_pointer, asB_bool, asI_int, asS_string, asSl_slice, asM_map, asTup0, asTup1, asTup2, asTup3, asTup4, asTup5, asTup6, asTup7, asTup8, asTup9, asAgg2, asAgg3, asAgg4, asAgg5, asAgg6, asAgg7, asAgg8, asAgg9, asAgg12, getD0, getD1, getD2, getD3, getD4, getD5, getD6, getD7, getD8, getD9, getD10, getD11, getD12, getD13, getD14, getD15, getD16, getD17, getD18, getD19, Bool.not_true, Bool.not_false, Bool.false_eq_true, Bool.true_eq_false, ↓reduceIte, decide_true, decide_false, Option.isNone_some, Option.isNone_none, Option.isSome_some, Option.isSome_none, beq_self_eq_true, bne_self_eq_false, Bool.and_true, Bool.true_and, Bool.and_false, Bool.false_and, not_true_eq_false, not_false_eq_true]
  unfold g3_j459
  simp only [e4, addr_add, Nat.zero_add, c4, obs, asP_pointer, asB_bool, asI_int, asS_string, asSl_slice, asM_map, asTup0, asTup1, asTup2, asTup3, asTup4, asTup5, asTup6, asTup7, asTup8, asTup9, asAgg2, asAgg3, asAgg4, asAgg5, asAgg6, asAgg7, asAgg8, asAgg9, asAgg12, getD0, getD1, getD2, getD3, getD4, getD5, getD6, getD7, getD8, getD9, getD10, getD11, getD12, getD13, getD14, getD15, getD16, getD17, getD18, getD19, Bool.not_true, Bool.not_false, Bool.false_eq_true, Bool.true_eq_false, ↓reduceIte, decide_true, decide_false, Option.isNone_some, Option.isNone_none, Option.isSome_some, Option.isSome_none, beq_self_eq_true, bne_self_eq_false, Bool.and_true, Bool.true_and, Bool.and_false, Bool.false_and, not_true_eq_false, not_false_eq_true]
  refine (g3_l493_x7_of (t := t5) (w' := x5) ?_).trans ?_
  · exact g5
  · unfold g3_l493_x7
    simp only [hw, obs, asP_pointer, asB_bool, asI_int, asS_string, asSl_slice, asM_map, asTup0, asTup1, asTup2, asTup3, asTup4, asTup5, asTup6, asTup7, asTup8, asTup9, asAgg2, asAgg3, asAgg4, asAgg5, asAgg6, asAgg7, asAgg8, asAgg9, asAgg12, getD0, getD1, getD2, getD3, getD4, getD5, getD6, getD7, getD8, getD9, getD10, getD11, getD12, getD13, getD14, getD15, getD16, getD17, getD18, getD19, Bool.not_true, Bool.not_false, Bool.false_eq_true, Bool.true_eq_false, ↓reduceIte, decide_true, decide_false, Option.isNone_some, Option.isNone_none, Option.isSome_some, Option.isSome_none, beq_self_eq_true, bne_self_eq_false, Bool.and_true, Bool.true_and, Bool.and_false, Bool.false_and, not_true_eq_false, not_false_eq_true]
theorem tl409 (h : PS W x tb D DL A ql L) {n0 n1 : Int} (hp : Blk x r.2.heap.size [.int .i64 n0, .int .i64 n1] 3) :
    ∃ x', g3_l409 (some ⟨tb, 0, none⟩) (f0, ql, k0) u0 r (f, 0) x = some (.normal, (f, ql, IntKind.i64.wrap (k0 + 1)), x') ∧ PS W x' tb D DL A ql L := by
  obtain ⟨t, x', g1, rfl, h', _⟩ := loopS_countX 5 (b := g3_l409_b r (some ⟨tb, 0, none⟩) (f0, ql, k0) u0) (I := fun k s y => s = (f, (k : Int)) ∧ PS W y tb D DL A ql L ∧ Blk y r.2.heap.size [.int .i64 n0, .int .i64 n1] 3) (n := 2)
    (fun k s y hk ⟨hs, h, hp⟩ => by
      subst hs
      obtain ⟨x', e, h', hp'⟩ := tr409 h hp hk
      exact ⟨_, x', e, rfl, h', hp'⟩)
    (fun s y ⟨hs, _⟩ => by
      subst hs
      unfold g3_l409_b
      rfl) (k := 0) (s := (f, 0)) (w := x) (by omega) ⟨rfl, h, hp⟩
  refine ⟨x', ?_, h'⟩
  rw [g3_l409_x5_of g1]
  unfold g3_l409_x5
  rfl
end

/-! ### the names of a call: copy 516 -/
section
variable {W x : World} {tb : Nat} {D DL : Nat → Prop} {A : List (Int × TV)} {ql : Sh} {L : List (RV × Sh)} {r : Value × World} {u0 qs : Sh} {f0 f : Bool} {k0 : Int}
theorem tr516 (h : PS W x tb D DL A ql L) {n0 n1 : Int} (hp : Blk x r.2.heap.size [.int .i64 n0, .int .i64 n1] 3) {k : Nat} (hk : k < 2) :
    ∃ x', g3_l516_b r (some ⟨tb, 0, none⟩) (f0, ql, k0) u0 (f, (k : Int)) x = some (.normal, (f, ((k + 1 : Nat) : Int)), x') ∧ PS W x' tb D DL A ql L ∧ Blk x' r.2.heap.size [.int .i64 n0, .int .i64 n1] 3 := by
  have z0 := h.fr.size
  obtain ⟨n, i1, c1⟩ : ∃ n, idxA (some ⟨r.2.heap.size, 0, none⟩) 2 1 (k : Int) = some ⟨r.2.heap.size, k, none⟩ ∧ x.cell? ⟨r.2.heap.size, k, none⟩ = some (.int .i64 n) := by
    have i : idxA (some ⟨r.2.heap.size, 0, none⟩) 2 1 (k : Int) = some ⟨r.2.heap.size, k, none⟩ := by
      unfold idxA
      rw [if_pos (by omega)]
      simp [addr_add]
    match k, hk with
    | 0, _ => exact ⟨n0, i, hp.cell 0⟩
    | 1, _ => exact ⟨n1, i, hp.cell 1⟩
  obtain ⟨q1, x1, e1, f1, o1, m1⟩ := tx21 h.tab n (h.lenM n)
  obtain ⟨x2, s2, b2, f2⟩ := newT2 x1 (tvOf A n) q1
  have fd := Fr.drew [] x2
  have F2 : Fr [] x x2.drew := (Fr.mono (Fr.app (Fr.app f1 f2) fd) (by have z0_ := Fr.size f1; have z1_ := Fr.size f2; have z2_ := Fr.size fd; intro y_ hy_ hl_; grind [blkOf]))
  have h2 := h.step F2 (by simp)
  obtain ⟨q3, x3, e3, f3, o3, m3⟩ := tx23 h2.rl n h2.sum
  have hsn := h.len n
  rw [← h.says n] at e3 o3
  obtain ⟨t, ht⟩ : ∃ t, tvOf A n = t := ⟨_, rfl⟩
  rw [ht] at e1 o1 s2 b2 e3 o3 hsn
  have b2d := b2.fr fd (by simp)
  have l2 := b2d.ldN (n := 8) rfl
  have b3 := b2d.fr f3 (by simp)
  have l3 := b3.ldN (n := 8) rfl
  have O1 := ((o1.fr f2 (by simp)).fr fd (by simp)).fr f3 (by simp)
  obtain ⟨x4, e4, f4⟩ := sameTx22 x3 t O1.slC o3.slC (by omega)
  have O4 := O1.fr f4 (by simp)
  have b4 := b3.fr f4 (by simp)
  have nT : x1.heap.size ∉ blkOf q1 := b4.notin O4 (by decide)
  have c4 : x4.cell? ⟨x1.heap.size, 4, none⟩ = some (.slice q1.1 q1.2.1 q1.2.2) := b4.cell 4
  obtain ⟨t5, x5, g5, f5⟩ := nines (X := 7) b4 (c := 4) rfl O4 nT
  have h4 := (h2.step f3 (by simp)).step f4 (by simp)
  have lt := h.tab.lt
  have ltL := h.rl.lt
  have h5 := h4.step f5 (fun y hy => ⟨by have := m1 y hy; omega, fun hd => by have := m1 y hy; have := lt y hd; omega, fun hd => by have := m1 y hy; have := ltL y hd; omega⟩)
  have hp4 : Blk x4 r.2.heap.size [.int .i64 n0, .int .i64 n1] 3 := ((hp.fr F2 (by simp)).fr f3 (by simp)).fr f4 (by simp)
  have lp := hp.lt
  have hp5 := hp4.fr f5 (fun hm => by have := m1 _ hm; omega)
  refine ⟨x5, ?_, h5, hp5⟩
  have k1 : decide ((k : Int) < 2) = true := by simp; omega
  have hw := wrap_succ (n := k) (by omega)
  simp only [TV.arg] at e1 e3 e4
  simp only [TV.cs] at l2 l3
  unfold g3_l516_b
  simp only [k1, i1, c1, e1, s2, addr_add, Nat.zero_add, l2, e3, l3, ite_self, obs, asP_pointer, asB_bool, asI_int, asS_string, asSl_slice, asM_map, asTup0, asTup1, asTup2, asTup3, asTup4, asTup5, asTup6, asTup7, asTup8, asTup9, asAgg2, asAgg3, asAgg4, asAgg5, asAgg6, asAgg7, asAgg8, asAgg9, asAgg12, getD0, getD1, getD2, getD3, getD4, getD5, getD6, getD7, getD8, getD9, getD10, getD11, getD12, getD13, getD14, getD15, getD16, getD17, getD18, getD19, Bool.not_true, Bool.not_false, Bool.false_eq_true, Bool.true_eq_false, ↓reduceIte, decide_true, decide_false, Option.isNone_some, Option.isNone_none, Option.isSome_some, Option.isSome_none, beq_self_eq_true, bne_self_eq_false, Bool.and_true, Bool.true_and, Bool.and_false, Bool.false_and, not_true_eq_false, not_false_eq_true]
  unfold g3_j566
  simp only [e4, addr_add, Nat.zero_add, c4, obs, asP_pointer, asB_bool, asI_int, asS_string, asSl_slice, asM_map, asTup0, asTup1, asTup2, asTup3, asTup4, asTup5, asTup6, asTup7, asTup8, asTup9, asAgg2, asAgg3, asAgg4, asAgg5, asAgg6, asAgg7, asAgg8, asAgg9, asAgg12, getD0, getD1, getD2, getD3, getD4, getD5, getD6, getD7, getD8, getD9, getD10, getD11, getD12, getD13, getD14, getD15, getD16, getD17, getD18, getD19, Bool.not_true, Bool.not_false, Bool.false_eq_true, Bool.true_eq_false, ↓reduceIte, decide_true, decide_false, Option.isNone_some, Option.isNone_none, Option.isSome_some, Option.isSome_none, beq_self_eq_true, bne_self_eq_false, Bool.and_true, Bool.true_and, Bool.and_false, Bool.false_and, not_true_eq_false, not_false_eq_true]
  refine (g3_l600_x7_of (t := t5) (w' := x5) ?_).trans ?_
  · exact g5
  · unfold g3_l600_x7
    simp only [hw, obs, asP_pointer, asB_bool, asI_int, asS_string, asSl_slice, asM_map, asTup0, asTup1, asTup2, asTup3, asTup4, asTup5, asTup6, asTup7, asTup8, asTup9, asAgg2, asAgg3, asAgg4, asAgg5, asAgg6, asAgg7, asAgg8, asAgg9, asAgg12, getD0, getD1, getD2, getD3, getD4, getD5, getD6, getD7, getD8, getD9, getD10, getD11, getD12, getD13, getD14, getD15, getD16, getD17, getD18, getD19, Bool.not_true, Bool.not_false, Bool.false_eq_true, Bool.true_eq_false, ↓reduceIte, decide_true, decide_false, Option.isNone_some, Option.isNone_none, Option.isSome_some, Option.isSome_none, beq_self_eq_true, bne_self_eq_false, Bool.and_true, Bool.true_and, Bool.and_false, Bool.false_and, not_true_eq_false, not_false_eq_true]
theorem tl516 (h : PS W x tb D DL A ql L) {n0 n1 : Int} (hp : Blk x r.2.heap.size [.int .i64 n0, .int .i64 n1] 3) :
    ∃ x', g3_l516 (some ⟨tb, 0, none⟩) (f0, ql, k0) u0 r (f, 0) x = some (.normal, (f, ql, IntKind.i64.wrap (k0 + 1)), x') ∧ PS W x' tb D DL A ql L := by
  obtain ⟨t, x', g1, rfl, h', _⟩ := loopS_countX 5 (b := g3_l516_b r (some ⟨tb, 0, none⟩) (f0, ql, k0) u0) (I := fun k s y => s = (f, (k : Int)) ∧ PS W y tb D DL A ql L ∧ Blk y r.2.heap.size [.int .i64 n0, .int .i64 n1] 3) (n := 2)
    (fun k s y hk ⟨hs, h, hp⟩ => by
      subst hs
      obtain ⟨x', e, h', hp'⟩ := tr516 h hp hk
      exact ⟨_, x', e, rfl, h', hp'⟩)
    (fun s y ⟨hs, _⟩ => by
      subst hs
      unfold g3_l516_b
      rfl) (k := 0) (s := (f, 0)) (w := x) (by omega) ⟨rfl, h, hp⟩
  refine ⟨x', ?_, h'⟩
  rw [g3_l516_x5_of g1]
  unfold g3_l516_x5
  rfl
end

/-! ### the names of a call: copy 705 -/
section
variable {W x : World} {tb : Nat} {D DL : Nat → Prop} {A : List (Int × TV)} {ql : Sh} {L : List (RV × Sh)} {r : Value × World} {u0 qs : Sh} {f0 f : Bool} {k0 : Int}
theorem tr705 (h : PS W x tb D DL A ql L) {n0 n1 : Int} (hp : Blk x r.2.heap.size [.int .i64 n0, .int .i64 n1] 3) {k : Nat} (hk : k < 2) :
    ∃ x', g3_l705_b r (some ⟨tb, 0, none⟩) ql u0 (f0, qs, k0) (f, (k : Int)) x = some (.normal, (f, ((k + 1 : Nat) : Int)), x') ∧ PS W x' tb D DL A ql L ∧ Blk x' r.2.heap.size [.int .i64 n0, .int .i64 n1] 3 := by
  have z0 := h.fr.size
  obtain ⟨n, i1, c1⟩ : ∃ n, idxA (some ⟨r.2.heap.size, 0, none⟩) 2 1 (k : Int) = some ⟨r.2.heap.size, k, none⟩ ∧ x.cell? ⟨r.2.heap.size, k, none⟩ = some (.int .i64 n) := by
    have i : idxA (some ⟨r.2.heap.size, 0, none⟩) 2 1 (k : Int) = some ⟨r.2.heap.size, k, none⟩ := by
      unfold idxA
      rw [if_pos (by omega)]
      simp [addr_add]
    match k, hk with
    | 0, _ => exact ⟨n0, i, hp.cell 0⟩
    | 1, _ => exact ⟨n1, i, hp.cell 1⟩
  obtain ⟨q1, x1, e1, f1, o1, m1⟩ := tx21 h.tab n (h.lenM n)
  obtain ⟨x2, s2, b2, f2⟩ := newT2 x1 (tvOf A n) q1
  have fd := Fr.drew [] x2
  have F2 : Fr [] x x2.drew := (Fr.mono (Fr.app (Fr.app f1 f2) fd) (by have z0_ := Fr.size f1; have z1_ := Fr.size f2; have z2_ := Fr.size fd; intro y_ hy_ hl_; grind [blkOf]))
  have h2 := h.step F2 (by simp)
  obtain ⟨q3, x3, e3, f3, o3, m3⟩ := tx23 h2.rl n h2.sum
  have hsn := h.len n
  rw [← h.says n] at e3 o3
  obtain ⟨t, ht⟩ : ∃ t, tvOf A n = t := ⟨_, rfl⟩
  rw [ht] at e1 o1 s2 b2 e3 o3 hsn
  have b2d := b2.fr fd (by simp)
  have l2 := b2d.ldN (n := 8) rfl
  have b3 := b2d.fr f3 (by simp)
  have l3 := b3.ldN (n := 8) rfl
  have O1 := ((o1.fr f2 (by simp)).fr fd (by simp)).fr f3 (by simp)
  obtain ⟨x4, e4, f4⟩ := sameTx22 x3 t O1.slC o3.slC (by omega)
  have O4 := O1.fr f4 (by simp)
  have b4 := b3.fr f4 (by simp)
  have nT : x1.heap.size ∉ blkOf q1 := b4.notin O4 (by decide)
  have c4 : x4.cell? ⟨x1.heap.size, 4, none⟩ = some (.slice q1.1 q1.2.1 q1.2.2) := b4.cell 4
  obtain ⟨t5, x5, g5, f5⟩ := nines (X := 7) b4 (c := 4) rfl O4 nT
  have h4 := (h2.step f3 (by simp)).step f4 (by simp)
  have lt := h.tab.lt
  have ltL := h.rl.lt
  have h5 := h4.step f5 (fun y hy => ⟨by have := m1 y hy; omega, fun hd => by have := m1 y hy; have := lt y hd; omega, fun hd => by have := m1 y hy; have := ltL y hd; omega⟩)
  have hp4 : Blk x4 r.2.heap.size [.int .i64 n0, .int .i64 n1] 3 := ((hp.fr F2 (by simp)).fr f3 (by simp)).fr f4 (by simp)
  have lp := hp.lt
  have hp5 := hp4.fr f5 (fun hm => by have := m1 _ hm; omega)
  refine ⟨x5, ?_, h5, hp5⟩
  have k1 : decide ((k : Int) < 2) = true := by simp; omega
  have hw := wrap_succ (n := k) (by omega)
  simp only [TV.arg] at e1 e3 e4
  simp only [TV.cs] at l2 l3
  unfold g3_l705_b
  simp only [k1, i1, c1, e1, s2, addr_add, Nat.zero_add, l2, e3, l3, ite_self, obs, asP_pointer, asB_bool, asI_int, asS_string, asSl_slice, asM_map, asTup0, asTup1, asTup2, asTup3, asTup4, asTup5, asTup6, asTup7, asTup8, asTup9, asAgg2, asAgg3, asAgg4, asAgg5, asAgg6, asAgg7, asAgg8, asAgg9, asAgg12, getD0, getD1, getD2, getD3, getD4, getD5, getD6, getD7, getD8, getD9, getD10, getD11, getD12, getD13, getD14, getD15, getD16, getD17, getD18, getD19, Bool.not_true, Bool.not_false, Bool.false_eq_true, Bool.true_eq_false, ↓reduceIte, decide_true, decide_false, Option.isNone_some, Option.isNone_none, Option.isSome_some, Option.isSome_none, beq_self_eq_true, bne_self_eq_false, Bool.and_true, Bool.true_and, Bool.and_false, Bool.false_and, not_true_eq_false, not_false_eq_true]
  unfold g3_j755
  simp only [e4, addr_add, Nat.zero_add, c4, obs, asP_pointer, asB_bool, asI_int, asS_string, asSl_slice, asM_map, asTup0, asTup1, asTup2, asTup3, asTup4, asTup5, asTup6, asTup7, asTup8, asTup9, asAgg2, asAgg3, asAgg4, asAgg5, asAgg6, asAgg7, asAgg8, asAgg9, asAgg12, getD0, getD1, getD2, getD3, getD4, getD5, getD6, getD7, getD8, getD9, getD10, getD11, getD12, getD13, getD14, getD15, getD16, getD17, getD18, getD19, Bool.not_true, Bool.not_false, Bool.false_eq_true, Bool.true_eq_false, ↓reduceIte, decide_true, decide_false, Option.isNone_some, Option.isNone_none, Option.isSome_some, Option.isSome_none, beq_self_eq_true, bne_self_eq_false, Bool.and_true, Bool.true_and, Bool.and_false, Bool.false_and, not_true_eq_false, not_false_eq_true]
  refine (g3_l789_x7_of (t := t5) (w' := x5) ?_).trans ?_
  · exact g5
  · unfold g3_l789_x7
    simp only [hw, obs, asP_pointer, asB_bool, asI_int, asS_string, asSl_slice, asM_map, asTup0, asTup1, asTup2, asTup3, asTup4, asTup5, asTup6, asTup7, asTup8, asTup9, asAgg2, asAgg3, asAgg4, asAgg5, asAgg6, asAgg7, asAgg8, asAgg9, asAgg12, getD0, getD1, getD2, getD3, getD4, getD5, getD6, getD7, getD8, getD9, getD10, getD11, getD12, getD13, getD14, getD15, getD16, getD17, getD18, getD19, Bool.not_true, Bool.not_false, Bool.false_eq_true, Bool.true_eq_false, ↓reduceIte, decide_true, decide_false, Option.isNone_some, Option.isNone_none, Option.isSome_some, Option.isSome_none, beq_self_eq_true, bne_self_eq_false, Bool.and_true, Bool.true_and, Bool.and_false, Bool.false_and, not_true_eq_false, not_false_eq_true]
theorem tl705 (h : PS W x tb D DL A ql L) {n0 n1 : Int} (hp : Blk x r.2.heap.size [.int .i64 n0, .int .i64 n1] 3) :
    ∃ x', g3_l705 (some ⟨tb, 0, none⟩) ql u0 (f0, qs, k0) r (f, 0) x = some (.normal, (f, ql, IntKind.i64.wrap (k0 + 1)), x') ∧ PS W x' tb D DL A ql L := by
  obtain ⟨t, x', g1, rfl, h', _⟩ := loopS_countX 5 (b := g3_l705_b r (some ⟨tb, 0, none⟩) ql u0 (f0, qs, k0)) (I := fun k s y => s = (f, (k : Int)) ∧ PS W y tb D DL A ql L ∧ Blk y r.2.heap.size [.int .i64 n0, .int .i64 n1] 3) (n := 2)
    (fun k s y hk ⟨hs, h, hp⟩ => by
      subst hs
      obtain ⟨x', e, h', hp'⟩ := tr705 h hp hk
      exact ⟨_, x', e, rfl, h', hp'⟩)
    (fun s y ⟨hs, _⟩ => by
      subst hs
      unfold g3_l705_b
      rfl) (k := 0) (s := (f, 0)) (w := x) (by omega) ⟨rfl, h, hp⟩
  refine ⟨x', ?_, h'⟩
  rw [g3_l705_x5_of g1]
  unfold g3_l705_x5
  rfl
end

/-! ### the names of a call: copy 812 -/
section
variable {W x : World} {tb : Nat} {D DL : Nat → Prop} {A : List (Int × TV)} {ql : Sh} {L : List (RV × Sh)} {r : Value × World} {u0 qs : Sh} {f0 f : Bool} {k0 : Int}
theorem tr812 (h : PS W x tb D DL A ql L) {n0 n1 : Int} (hp : Blk x r.2.heap.size [.int .i64 n0, .int .i64 n1] 3) {k : Nat} (hk : k < 2) :
    ∃ x', g3_l812_b r (some ⟨tb, 0, none⟩) (f0, ql, k0) u0 (f, (k : Int)) x = some (.normal, (f, ((k + 1 : Nat) : Int)), x') ∧ PS W x' tb D DL A ql L ∧ Blk x' r.2.heap.size [.int .i64 n0, .int .i64 n1] 3 := by
  have z0 := h.fr.size
  obtain ⟨n, i1, c1⟩ : ∃ n, idxA (some ⟨r.2.heap.size, 0, none⟩) 2 1 (k : Int) = some ⟨r.2.heap.size, k, none⟩ ∧ x.cell? ⟨r.2.heap.size, k, none⟩ = some (.int .i64 n) := by
    have i : idxA (some ⟨r.2.heap.size, 0, none⟩) 2 1 (k : Int) = some ⟨r.2.heap.size, k, none⟩ := by
      unfold idxA
      rw [if_pos (by omega)]
      simp [addr_add]
    match k, hk with
    | 0, _ => exact ⟨n0, i, hp.cell 0⟩
    | 1, _ => exact ⟨n1, i, hp.cell 1⟩
  obtain ⟨q1, x1, e1, f1, o1, m1⟩ := tx21 h.tab n (h.lenM n)
  obtain ⟨x2, s2, b2, f2⟩ := newT2 x1 (tvOf A n) q1
  have fd := Fr.drew [] x2
  have F2 : Fr [] x x2.drew := (Fr.mono (Fr.app (Fr.app f1 f2) fd) (by have z0_ := Fr.size f1; have z1_ := Fr.size f2; have z2_ := Fr.size fd; intro y_ hy_ hl_; grind [blkOf]))
  have h2 := h.step F2 (by simp)
  obtain ⟨q3, x3, e3, f3, o3, m3⟩ := tx23 h2.rl n h2.sum
  have hsn := h.len n
  rw [← h.says n] at e3 o3
  obtain ⟨t, ht⟩ : ∃ t, tvOf A n = t := ⟨_, rfl⟩
  rw [ht] at e1 o1 s2 b2 e3 o3 hsn
  have b2d := b2.fr fd (by simp)
  have l2 := b2d.ldN (n := 8) rfl
  have b3 := b2d.fr f3 (by simp)
  have l3 := b3.ldN (n := 8) rfl
  have O1 := ((o1.fr f2 (by simp)).fr fd (by simp)).fr f3 (by simp)
  obtain ⟨x4, e4, f4⟩ := sameTx22 x3 t O1.slC o3.slC (by omega)
  have O4 := O1.fr f4 (by simp)
  have b4 := b3.fr f4 (by simp)
  have nT : x1.heap.size ∉ blkOf q1 := b4.notin O4 (by decide)
  have c4 : x4.cell? ⟨x1.heap.size, 4, none⟩ = some (.slice q1.1 q1.2.1 q1.2.2) := b4.cell 4
  obtain ⟨t5, x5, g5, f5⟩ := nines (X := 7) b4 (c := 4) rfl O4 nT
  have h4 := (h2.step f3 (by simp)).step f4 (by simp)
  have lt := h.tab.lt
  have ltL := h.rl.lt
  have h5 := h4.step f5 (fun y hy => ⟨by have := m1 y hy; omega, fun hd => by have := m1 y hy; have := lt y hd; omega, fun hd => by have := m1 y hy; have := ltL y hd; omega⟩)
  have hp4 : Blk x4 r.2.heap.size [.int .i64 n0, .int .i64 n1] 3 := ((hp.fr F2 (by simp)).fr f3 (by simp)).fr f4 (by simp)
  have lp := hp.lt
  have hp5 := hp4.fr f5 (fun hm => by have := m1 _ hm; omega)
  refine ⟨x5, ?_, h5, hp5⟩
  have k1 : decide ((k : Int) < 2) = true := by simp; omega
  have hw := wrap_succ (n := k) (by omega)
  simp only [TV.arg] at e1 e3 e4
  simp only [TV.cs] at l2 l3
  unfold g3_l812_b
  simp only [k1, i1, c1, e1, s2, addr_add, Nat.zero_add, l2, e3, l3, ite_self, obs, asP_pointer, asB_bool, asI_int, asS_string, asSl_slice, asM_map, asTup0, asTup1, asTup2, asTup3, asTup4, asTup5, asTup6, asTup7, asTup8, asTup9, asAgg2, asAgg3, asAgg4, asAgg5, asAgg6, asAgg7, asAgg8, asAgg9, asAgg12, getD0, getD1, getD2, getD3, getD4, getD5, getD6, getD7, getD8, getD9, getD10, getD11, getD12, getD13, getD14, getD15, getD16, getD17, getD18, getD19, Bool.not_true, Bool.not_false, Bool.false_eq_true, Bool.true_eq_false, ↓reduceIte, decide_true, decide_false, Option.isNone_some, Option.isNone_none, Option.isSome_some, Option.isSome_none, beq_self_eq_true, bne_self_eq_false, Bool.and_true, Bool.true_and, Bool.and_false, Bool.false_and, not_true_eq_false, not_false_eq_true]
  unfold g3_j862
  simp only [e4, addr_add, Nat.zero_add, c4, obs, asP_pointer, asB_bool, asI_int, asS_string, asSl_slice, asM_map, asTup0, asTup1, asTup2, asTup3, asTup4, asTup5, asTup6, asTup7, asTup8, asTup9, asAgg2, asAgg3, asAgg4, asAgg5, asAgg6, asAgg7, asAgg8, asAgg9, asAgg12, getD0, getD1, getD2, getD3, getD4, getD5, getD6, getD7, getD8, getD9, getD10, getD11, getD12, getD13, getD14, getD15, getD16, getD17, getD18, getD19, Bool.not_true, Bool.not_false, Bool.false_eq_true, Bool.true_eq_false, ↓reduceIte, decide_true, decide_false, Option.isNone_some, Option.isNone_none, Option.isSome_some, Option.isSome_none, beq_self_eq_true, bne_self_eq_false, Bool.and_true, Bool.true_and, Bool.and_false, Bool.false_and, not_true_eq_false, not_false_eq_true]
  refine (g3_l896_x7_of (t := t5) (w' := x5) ?_).trans ?_
  · exact g5
  · unfold g3_l896_x7
    simp only [hw, obs, asP_pointer, asB_bool, asI_int, asS_string, asSl_slice, asM_map, asTup0, asTup1, asTup2, asTup3, asTup4, asTup5, asTup6, asTup7, asTup8, asTup9, asAgg2, asAgg3, asAgg4, asAgg5, asAgg6, asAgg7, asAgg8, asAgg9, asAgg12, getD0, getD1, getD2, getD3, getD4, getD5, getD6, getD7, getD8, getD9, getD10, getD11, getD12, getD13, getD14, getD15, getD16, getD17, getD18, getD19, Bool.not_true, Bool.not_false, Bool.false_eq_true, Bool.true_eq_false, ↓reduceIte, decide_true, decide_false, Option.isNone_some, Option.isNone_none, Option.isSome_some, Option.isSome_none, beq_self_eq_true, bne_self_eq_false, Bool.and_true, Bool.true_and, Bool.and_false, Bool.false_and, not_true_eq_false, not_false_eq_true]
theorem tl812 (h : PS W x tb D DL A ql L) {n0 n1 : Int} (hp : Blk x r.2.heap.size [.int .i64 n0, .int .i64 n1] 3) :
    ∃ x', g3_l812 (some ⟨tb, 0, none⟩) (f0, ql, k0) u0 r (f, 0) x = some (.normal, (f, ql, IntKind.i64.wrap (k0 + 1)), x') ∧ PS W x' tb D DL A ql L := by
  obtain ⟨t, x', g1, rfl, h', _⟩ := loopS_countX 5 (b := g3_l812_b r (some ⟨tb, 0, none⟩) (f0, ql, k0) u0) (I := fun k s y => s = (f, (k : Int)) ∧ PS W y tb D DL A ql L ∧ Blk y r.2.heap.size [.int .i64 n0, .int .i64 n1] 3) (n := 2)
    (fun k s y hk ⟨hs, h, hp⟩ => by
      subst hs
      obtain ⟨x', e, h', hp'⟩ := tr812 h hp hk
      exact ⟨_, x', e, rfl, h', hp'⟩)
    (fun s y ⟨hs, _⟩ => by
      subst hs
      unfold g3_l812_b
      rfl) (k := 0) (s := (f, 0)) (w := x) (by omega) ⟨rfl, h, hp⟩
  refine ⟨x', ?_, h'⟩
  rw [g3_l812_x5_of g1]
  unfold g3_l812_x5
  rfl
end

/-! ### the names of a call: copy 919 -/
section
variable {W x : World} {tb : Nat} {D DL : Nat → Prop} {A : List (Int × TV)} {ql : Sh} {L : List (RV × Sh)} {r : Value × World} {u0 qs : Sh} {f0 f : Bool} {k0 : Int}
theorem tr919 (h : PS W x tb D DL A ql L) {n0 n1 : Int} (hp : Blk x r.2.heap.size [.int .i64 n0, .int .i64 n1] 3) {k : Nat} (hk : k < 2) :
    ∃ x', g3_l919_b r (some ⟨tb, 0, none⟩) (f0, ql, k0) u0 (f, (k : Int)) x = some (.normal, (f, ((k + 1 : Nat) : Int)), x') ∧ PS W x' tb D DL A ql L ∧ Blk x' r.2.heap.size [.int .i64 n0, .int .i64 n1] 3 := by
  have z0 := h.fr.size
  obtain ⟨n, i1, c1⟩ : ∃ n, idxA (some ⟨r.2.heap.size, 0, none⟩) 2 1 (k : Int) = some ⟨r.2.heap.size, k, none⟩ ∧ x.cell? ⟨r.2.heap.size, k, none⟩ = some (.int .i64 n) := by
    have i : idxA (some ⟨r.2.heap.size, 0, none⟩) 2 1 (k : Int) = some ⟨r.2.heap.size, k, none⟩ := by
      unfold idxA
      rw [if_pos (by omega)]
      simp [addr_add]
    match k, hk with
    | 0, _ => exact ⟨n0, i, hp.cell 0⟩
    | 1, _ => exact ⟨n1, i, hp.cell 1⟩
  obtain ⟨q1, x1, e1, f1, o1, m1⟩ := tx21 h.tab n (h.lenM n)
  obtain ⟨x2, s2, b2, f2⟩ := newT2 x1 (tvOf A n) q1
  have fd := Fr.drew [] x2
  have F2 : Fr [] x x2.drew := (Fr.mono (Fr.app (Fr.app f1 f2) fd) (by have z0_ := Fr.size f1; have z1_ := Fr.size f2; have z2_ := Fr.size fd; intro y_ hy_ hl_; grind [blkOf]))
  have h2 := h.step F2 (by simp)
  obtain ⟨q3, x3, e3, f3, o3, m3⟩ := tx23 h2.rl n h2.sum
  have hsn := h.len n
  rw [← h.says n] at e3 o3
  obtain ⟨t, ht⟩ : ∃ t, tvOf A n = t := ⟨_, rfl⟩
  rw [ht] at e1 o1 s2 b2 e3 o3 hsn
  have b2d := b2.fr fd (by simp)
  have l2 := b2d.ldN (n := 8) rfl
  have b3 := b2d.fr f3 (by simp)
  have l3 := b3.ldN (n := 8) rfl
  have O1 := ((o1.fr f2 (by simp)).fr fd (by simp)).fr f3 (by simp)
  obtain ⟨x4, e4, f4⟩ := sameTx22 x3 t O1.slC o3.slC (by omega)
  have O4 := O1.fr f4 (by simp)
  have b4 := b3.fr f4 (by simp)
  have nT : x1.heap.size ∉ blkOf q1 := b4.notin O4 (by decide)
  have c4 : x4.cell? ⟨x1.heap.size, 4, none⟩ = some (.slice q1.1 q1.2.1 q1.2.2) := b4.cell 4
  obtain ⟨t5, x5, g5, f5⟩ := nines (X := 7) b4 (c := 4) rfl O4 nT
  have h4 := (h2.step f3 (by simp)).step f4 (by simp)
  have lt := h.tab.lt
  have ltL := h.rl.lt
  have h5 := h4.step f5 (fun y hy => ⟨by have := m1 y hy; omega, fun hd => by have := m1 y hy; have := lt y hd; omega, fun hd => by have := m1 y hy; have := ltL y hd; omega⟩)
  have hp4 : Blk x4 r.2.heap.size [.int .i64 n0, .int .i64 n1] 3 := ((hp.fr F2 (by simp)).fr f3 (by simp)).fr f4 (by simp)
  have lp := hp.lt
  have hp5 := hp4.fr f5 (fun hm => by have := m1 _ hm; omega)
  refine ⟨x5, ?_, h5, hp5⟩
  have k1 : decide ((k : Int) < 2) = true := by simp; omega
  have hw := wrap_succ (n := k) (by omega)
  simp only [TV.arg] at e1 e3 e4
  simp only [TV.cs] at l2 l3
  unfold g3_l919_b
  simp only [k1, i1, c1, e1, s2, addr_add, Nat.zero_add, l2, e3, l3, ite_self, obs, asP_pointer, asB_bool, asI_int, asS_string, asSl_slice, asM_map, asTup0, asTup1, asTup2, asTup3, asTup4, asTup5, asTup6, asTup7, asTup8, asTup9, asAgg2, asAgg3, asAgg4, asAgg5, asAgg6, asAgg7, asAgg8, asAgg9, asAgg12, getD0, getD1, getD2, getD3, getD4, getD5, getD6, getD7, getD8, getD9, getD10, getD11, getD12, getD13, getD14, getD15, getD16, getD17, getD18, getD19, Bool.not_true, Bool.not_false, Bool.false_eq_true, Bool.true_eq_false, ↓reduceIte, decide_true, decide_false, Option.isNone_some, Option.isNone_none, Option.isSome_some, Option.isSome_none, beq_self_eq_true, bne_self_eq_false, Bool.and_true, Bool.true_and, Bool.and_false, Bool.false_and, not_true_eq_false, not_false_eq_true]
  unfold g3_j969
  simp only [e4, addr_add, Nat.zero_add, c4, obs, asP_pointer, asB_bool, asI_int, asS_string, asSl_slice, asM_map, asTup0, asTup1, asTup2, asTup3, asTup4, asTup5, asTup6, asTup7, asTup8, asTup9, asAgg2, asAgg3, asAgg4, asAgg5, asAgg6, asAgg7, asAgg8, asAgg9, asAgg12, getD0, getD1, getD2, getD3, getD4, getD5, getD6, getD7, getD8, getD9, getD10, getD11, getD12, getD13, getD14, getD15, getD16, getD17, getD18, getD19, Bool.not_true, Bool.not_false, Bool.false_eq_true, Bool.true_eq_false, ↓reduceIte, decide_true, decide_false, Option.isNone_some, Option.isNone_none, Option.isSome_some, Option.isSome_none, beq_self_eq_true, bne_self_eq_false, Bool.and_true, Bool.true_and, Bool.and_false, Bool.false_and, not_true_eq_false, not_false_eq_true]
  refine (g3_l1003_x7_of (t := t5) (w' := x5) ?_).trans ?_
  · exact g5
  · unfold g3_l1003_x7
    simp only [hw, obs, asP_pointer, asB_bool, asI_int, asS_string, asSl_slice, asM_map, asTup0, asTup1, asTup2, asTup3, asTup4, asTup5, asTup6, asTup7, asTup8, asTup9, asAgg2, asAgg3, asAgg4, asAgg5, asAgg6, asAgg7, asAgg8, asAgg9, asAgg12, getD0, getD1, getD2, getD3, getD4, getD5, getD6, getD7, getD8, getD9, getD10, getD11, getD12, getD13, getD14, getD15, getD16, getD17, getD18, getD19, Bool.not_true, Bool.not_false, Bool.false_eq_true, Bool.true_eq_false, ↓reduceIte, decide_true, decide_false, Option.isNone_some, Option.isNone_none, Option.isSome_some, Option.isSome_none, beq_self_eq_true, bne_self_eq_false, Bool.and_true, Bool.true_and, Bool.and_false, Bool.false_and, not_true_eq_false, not_false_eq_true]
theorem tl919 (h : PS W x tb D DL A ql L) {n0 n1 : Int} (hp : Blk x r.2.heap.size [.int .i64 n0, .int .i64 n1] 3) :
    ∃ x', g3_l919 (some ⟨tb, 0, none⟩) (f0, ql, k0) u0 r (f, 0) x = some (.normal, (f, ql, IntKind.i64.wrap (k0 + 1)), x') ∧ PS W x' tb D DL A ql L := by
  obtain ⟨t, x', g1, rfl, h', _⟩ := loopS_countX 5 (b := g3_l919_b r (some ⟨tb, 0, none⟩) (f0, ql, k0) u0) (I := fun k s y => s = (f, (k : Int)) ∧ PS W y tb D DL A ql L ∧ Blk y r.2.heap.size [.int .i64 n0, .int .i64 n1] 3) (n := 2)
    (fun k s y hk ⟨hs, h, hp⟩ => by
      subst hs
      obtain ⟨x', e, h', hp'⟩ := tr919 h hp hk
      exact ⟨_, x', e, rfl, h', hp'⟩)
    (fun s y ⟨hs, _⟩ => by
      subst hs
      unfold g3_l919_b
      rfl) (k := 0) (s := (f, 0)) (w := x) (by omega) ⟨rfl, h, hp⟩
  refine ⟨x', ?_, h'⟩
  rw [g3_l919_x5_of g1]
  unfold g3_l919_x5
  rfl
end

/-! ### the names of a call: copy 1108 -/
section
variable {W x : World} {tb : Nat} {D DL : Nat → Prop} {A : List (Int × TV)} {ql : Sh} {L : List (RV × Sh)} {r : Value × World} {u0 qs : Sh} {f0 f : Bool} {k0 : Int}
theorem tr1108 (h : PS W x tb D DL A ql L) {n0 n1 : Int} (hp : Blk x r.2.heap.size [.int .i64 n0, .int .i64 n1] 3) {k : Nat} (hk : k < 2) :
    ∃ x', g3_l1108_b r (some ⟨tb, 0, none⟩) ql u0 (f0, qs, k0) (f, (k : Int)) x = some (.normal, (f, ((k + 1 : Nat) : Int)), x') ∧ PS W x' tb D DL A ql L ∧ Blk x' r.2.heap.size [.int .i64 n0, .int .i64 n1] 3 := by
  have z0 := h.fr.size
  obtain ⟨n, i1, c1⟩ : ∃ n, idxA (some ⟨r.2.heap.size, 0, none⟩) 2 1 (k : Int) = some ⟨r.2.heap.size, k, none⟩ ∧ x.cell? ⟨r.2.heap.size, k, none⟩ = some (.int .i64 n) := by
    have i : idxA (some ⟨r.2.heap.size, 0, none⟩) 2 1 (k : Int) = some ⟨r.2.heap.size, k, none⟩ := by
      unfold idxA
      rw [if_pos (by omega)]
      simp [addr_add]
    match k, hk with
    | 0, _ => exact ⟨n0, i, hp.cell 0⟩
    | 1, _ => exact ⟨n1, i, hp.cell 1⟩
  obtain ⟨q1, x1, e1, f1, o1, m1⟩ := tx21 h.tab n (h.lenM n)
  obtain ⟨x2, s2, b2, f2⟩ := newT2 x1 (tvOf A n) q1
  have fd := Fr.drew [] x2
  have F2 : Fr [] x x2.drew := (Fr.mono (Fr.app (Fr.app f1 f2) fd) (by have z0_ := Fr.size f1; have z1_ := Fr.size f2; have z2_ := Fr.size fd; intro y_ hy_ hl_; grind [blkOf]))
  have h2 := h.step F2 (by simp)
  obtain ⟨q3, x3, e3, f3, o3, m3⟩ := tx23 h2.rl n h2.sum
  have hsn := h.len n
  rw [← h.says n] at e3 o3
  obtain ⟨t, ht⟩ : ∃ t, tvOf A n = t := ⟨_, rfl⟩
  rw [ht] at e1 o1 s2 b2 e3 o3 hsn
  have b2d := b2.fr fd (by simp)
  have l2 := b2d.ldN (n := 8) rfl
  have b3 := b2d.fr f3 (by simp)
  have l3 := b3.ldN (n := 8) rfl
  have O1 := ((o1.fr f2 (by simp)).fr fd (by simp)).fr f3 (by simp)
  obtain ⟨x4, e4, f4⟩ := sameTx22 x3 t O1.slC o3.slC (by omega)
  have O4 := O1.fr f4 (by simp)
  have b4 := b3.fr f4 (by simp)
  have nT : x1.heap.size ∉ blkOf q1 := b4.notin O4 (by decide)
  have c4 : x4.cell? ⟨x1.heap.size, 4, none⟩ = some (.slice q1.1 q1.2.1 q1.2.2) := b4.cell 4
  obtain ⟨t5, x5, g5, f5⟩ := nines (X := 7) b4 (c := 4) rfl O4 nT
  have h4 := (h2.step f3 (by simp)).step f4 (by simp)
  have lt := h.tab.lt
  have ltL := h.rl.lt
  have h5 := h4.step f5 (fun y hy => ⟨by have := m1 y hy; omega, fun hd => by have := m1 y hy; have := lt y hd; omega, fun hd => by have := m1 y hy; have := ltL y hd; omega⟩)
  have hp4 : Blk x4 r.2.heap.size [.int .i64 n0, .int .i64 n1] 3 := ((hp.fr F2 (by simp)).fr f3 (by simp)).fr f4 (by simp)
  have lp := hp.lt
  have hp5 := hp4.fr f5 (fun hm => by have := m1 _ hm; omega)
  refine ⟨x5, ?_, h5, hp5⟩
  have k1 : decide ((k : Int) < 2) = true := by simp; omega
  have hw := wrap_succ (n := k) (by omega)
  simp only [TV.arg] at e1 e3 e4
  simp only [TV.cs] at l2 l3
  unfold g3_l1108_b
  simp only [k1, i1, c1, e1, s2, addr_add, Nat.zero_add, l2, e3, l3, ite_self, obs, asP_pointer, asB_bool, asI_int, asS_string, asSl_slice, asM_map, asTup0, asTup1, asTup2, asTup3, asTup4, asTup5, asTup6, asTup7, asTup8, asTup9, asAgg2, asAgg3, asAgg4, asAgg5, asAgg6, asAgg7, asAgg8, asAgg9, asAgg12, getD0, getD1, getD2, getD3, getD4, getD5, getD6, getD7, getD8, getD9, getD10, getD11, getD12, getD13, getD14, getD15, getD16, getD17, getD18, getD19, Bool.not_true, Bool.not_false, Bool.false_eq_true, Bool.true_eq_false, ↓reduceIte, decide_true, decide_false, Option.isNone_some, Option.isNone_none, Option.isSome_some, Option.isSome_none, beq_self_eq_true, bne_self_eq_false, Bool.and_true, Bool.true_and, Bool.and_false, Bool.false_and, not_true_eq_false, not_false_eq_true]
  unfold g3_j1158
  simp only [e4, addr_add, Nat.zero_add, c4, obs, asP_pointer, asB_bool, asI_int, asS_string, asSl_slice, asM_map, asTup0, asTup1, asTup2, asTup3, asTup4, asTup5, asTup6, asTup7, asTup8, asTup9, asAgg2, asAgg3, asAgg4, asAgg5, asAgg6, asAgg7, asAgg8, asAgg9, asAgg12, getD0, getD1, getD2, getD3, getD4, getD5, getD6, getD7, getD8, getD9, getD10, getD11, getD12, getD13, getD14, getD15, getD16, getD17, getD18, getD19, Bool.not_true, Bool.not_false, Bool.false_eq_true, Bool.true_eq_false, ↓reduceIte, decide_true, decide_false, Option.isNone_some, Option.isNone_none, Option.isSome_some, Option.isSome_none, beq_self_eq_true, bne_self_eq_false, Bool.and_true, Bool.true_and, Bool.and_false, Bool.false_and, not_true_eq_false, not_false_eq_true]
  refine (g3_l1192_x7_of (t := t5) (w' := x5) ?_).trans ?_
  · exact g5
  · unfold g3_l1192_x7
    simp only [hw, obs, asP_pointer, asB_bool, asI_int, asS_string, asSl_slice, asM_map, asTup0, asTup1, asTup2, asTup3, asTup4, asTup5, asTup6, asTup7, asTup8, asTup9, asAgg2, asAgg3, asAgg4, asAgg5, asAgg6, asAgg7, asAgg8, asAgg9, asAgg12, getD0, getD1, getD2, getD3, getD4, getD5, getD6, getD7, getD8, getD9, getD10, getD11, getD12, getD13, getD14, getD15, getD16, getD17, getD18, getD19, Bool.not_true, Bool.not_false, Bool.false_eq_true, Bool.true_eq_false, ↓reduceIte, decide_true, decide_false, Option.isNone_some, Option.isNone_none, Option.isSome_some, Option.isSome_none, beq_self_eq_true, bne_self_eq_false, Bool.and_true, Bool.true_and, Bool.and_false, Bool.false_and, not_true_eq_false, not_false_eq_true]
theorem tl1108 (h : PS W x tb D DL A ql L) {n0 n1 : Int} (hp : Blk x r.2.heap.size [.int .i64 n0, .int .i64 n1] 3) :
    ∃ x', g3_l1108 (some ⟨tb, 0, none⟩) ql u0 (f0, qs, k0) r (f, 0) x = some (.normal, (f, ql, IntKind.i64.wrap (k0 + 1)), x') ∧ PS W x' tb D DL A ql L := by
  obtain ⟨t, x', g1, rfl, h', _⟩ := loopS_countX 5 (b := g3_l1108_b r (some ⟨tb, 0, none⟩) ql u0 (f0, qs, k0)) (I := fun k s y => s = (f, (k : Int)) ∧ PS W y tb D DL A ql L ∧ Blk y r.2.heap.size [.int .i64 n0, .int .i64 n1] 3) (n := 2)
    (fun k s y hk ⟨hs, h, hp⟩ => by
      subst hs
      obtain ⟨x', e, h', hp'⟩ := tr1108 h hp hk
      exact ⟨_, x', e, rfl, h', hp'⟩)
    (fun s y ⟨hs, _⟩ => by
      subst hs
      unfold g3_l1108_b
      rfl) (k := 0) (s := (f, 0)) (w := x) (by omega) ⟨rfl, h, hp⟩
  refine ⟨x', ?_, h'⟩
  rw [g3_l1108_x5_of g1]
  unfold g3_l1108_x5
  rfl
end

/-! ### the names of a call: copy 1215 -/
section
variable {W x : World} {tb : Nat} {D DL : Nat → Prop} {A : List (Int × TV)} {ql : Sh} {L : List (RV × Sh)} {r : Value × World} {u0 qs : Sh} {f0 f : Bool} {k0 : Int}
theorem tr1215 (h : PS W x tb D DL A ql L) {n0 n1 : Int} (hp : Blk x r.2.heap.size [.int .i64 n0, .int .i64 n1] 3) {k : Nat} (hk : k < 2) :
    ∃ x', g3_l1215_b r (some ⟨tb, 0, none⟩) (f0, ql, k0) u0 (f, (k : Int)) x = some (.normal, (f, ((k + 1 : Nat) : Int)), x') ∧ PS W x' tb D DL A ql L ∧ Blk x' r.2.heap.size [.int .i64 n0, .int .i64 n1] 3 := by
  have z0 := h.fr.size
  obtain ⟨n, i1, c1⟩ : ∃ n, idxA (some ⟨r.2.heap.size, 0, none⟩) 2 1 (k : Int) = some ⟨r.2.heap.size, k, none⟩ ∧ x.cell? ⟨r.2.heap.size, k, none⟩ = some (.int .i64 n) := by
    have i : idxA (some ⟨r.2.heap.size, 0, none⟩) 2 1 (k : Int) = some ⟨r.2.heap.size, k, none⟩ := by
      unfold idxA
      rw [if_pos (by omega)]
      simp [addr_add]
    match k, hk with
    | 0, _ => exact ⟨n0, i, hp.cell 0⟩
    | 1, _ => exact ⟨n1, i, hp.cell 1⟩
  obtain ⟨q1, x1, e1, f1, o1, m1⟩ := tx21 h.tab n (h.lenM n)
  obtain ⟨x2, s2, b2, f2⟩ := newT2 x1 (tvOf A n) q1
  have fd := Fr.drew [] x2
  have F2 : Fr [] x x2.drew := (Fr.mono (Fr.app (Fr.app f1 f2) fd) (by have z0_ := Fr.size f1; have z1_ := Fr.size f2; have z2_ := Fr.size fd; intro y_ hy_ hl_; grind [blkOf]))
  have h2 := h.step F2 (by simp)
  obtain ⟨q3, x3, e3, f3, o3, m3⟩ := tx23 h2.rl n h2.sum
  have hsn := h.len n
  rw [← h.says n] at e3 o3
  obtain ⟨t, ht⟩ : ∃ t, tvOf A n = t := ⟨_, rfl⟩
  rw [ht] at e1 o1 s2 b2 e3 o3 hsn
  have b2d := b2.fr fd (by simp)
  have l2 := b2d.ldN (n := 8) rfl
  have b3 := b2d.fr f3 (by simp)
  have l3 := b3.ldN (n := 8) rfl
  have O1 := ((o1.fr f2 (by simp)).fr fd (by simp)).fr f3 (by simp)
  obtain ⟨x4, e4, f4⟩ := sameTx22 x3 t O1.slC o3.slC (by omega)
  have O4 := O1.fr f4 (by simp)
  have b4 := b3.fr f4 (by simp)
  have nT : x1.heap.size ∉ blkOf q1 := b4.notin O4 (by decide)
  have c4 : x4.cell? ⟨x1.heap.size, 4, none⟩ = some (.slice q1.1 q1.2.1 q1.2.2) := b4.cell 4
  obtain ⟨t5, x5, g5, f5⟩ := nines (X := 7) b4 (c := 4) rfl O4 nT
  have h4 := (h2.step f3 (by simp)).step f4 (by simp)
  have lt := h.tab.lt
  have ltL := h.rl.lt
  have h5 := h4.step f5 (fun y hy => ⟨by have := m1 y hy; omega, fun hd => by have := m1 y hy; have := lt y hd; omega, fun hd => by have := m1 y hy; have := ltL y hd; omega⟩)
  have hp4 : Blk x4 r.2.heap.size [.int .i64 n0, .int .i64 n1] 3 := ((hp.fr F2 (by simp)).fr f3 (by simp)).fr f4 (by simp)
  have lp := hp.lt
  have hp5 := hp4.fr f5 (fun hm => by have := m1 _ hm; omega)
  refine ⟨x5, ?_, h5, hp5⟩
  have k1 : decide ((k : Int) < 2) = true := by simp; omega
  have hw := wrap_succ (n := k) (by omega)
  simp only [TV.arg] at e1 e3 e4
  simp only [TV.cs] at l2 l3
  unfold g3_l1215_b
  simp only [k1, i1, c1, e1, s2, addr_add, Nat.zero_add, l2, e3, l3, ite_self, obs, asP_pointer, asB_bool, asI_int, asS_string, asSl_slice, asM_map, asTup0, asTup1, asTup2, asTup3, asTup4, asTup5, asTup6, asTup7, asTup8, asTup9, asAgg2, asAgg3, asAgg4, asAgg5, asAgg6, asAgg7, asAgg8, asAgg9, asAgg12, getD0, getD1, getD2, getD3, getD4, getD5, getD6, getD7, getD8, getD9, getD10, getD11, getD12, getD13, getD14, getD15, getD16, getD17, getD18, getD19, Bool.not_true, Bool.not_false, Bool.false_eq_true, Bool.true_eq_false, ↓reduceIte, decide_true, decide_false, Option.isNone_some, Option.isNone_none, Option.isSome_some, Option.isSome_none, beq_self_eq_true, bne_self_eq_false, Bool.and_true, Bool.true_and, Bool.and_false, Bool.false_and, not_true_eq_false, not_false_eq_true]
  unfold g3_j1265
  simp only [e4, addr_add, Nat.zero_add, c4, obs, asP_pointer, asB_bool, asI_int, asS_string, asSl_slice, asM_map, asTup0, asTup1, asTup2, asTup3, asTup4, asTup5, asTup6, asTup7, asTup8, asTup9, asAgg2, asAgg3, asAgg4, asAgg5, asAgg6, asAgg7, asAgg8, asAgg9, asAgg12, getD0, getD1, getD2, getD3, getD4, getD5, getD6, getD7, getD8, getD9, getD10, getD11, getD12, getD13, getD14, getD15, getD16, getD17, getD18, getD19, Bool.not_true, Bool.not_false, Bool.false_eq_true, Bool.true_eq_false, ↓reduceIte, decide_true, decide_false, Option.isNone_some, Option.isNone_none, Option.isSome_some, Option.isSome_none, beq_self_eq_true, bne_self_eq_false, Bool.and_true, Bool.true_and, Bool.and_false, Bool.false_and, not_true_eq_false, not_false_eq_true]
  refine (g3_l1299_x7_of (t := t5) (w' := x5) ?_).trans ?_
  · exact g5
  · unfold g3_l1299_x7
    simp only [hw, obs, asP_pointer, asB_bool, asI_int, asS_string, asSl_slice, asM_map, asTup0, asTup1, asTup2, asTup3, asTup4, asTup5, asTup6, asTup7, asTup8, asTup9, asAgg2, asAgg3, asAgg4, asAgg5, asAgg6, asAgg7, asAgg8, asAgg9, asAgg12, getD0, getD1, getD2, getD3, getD4, getD5, getD6, getD7, getD8, getD9, getD10, getD11, getD12, getD13, getD14, getD15, getD16, getD17, getD18, getD19, Bool.not_true, Bool.not_false, Bool.false_eq_true, Bool.true_eq_false, ↓reduceIte, decide_true, decide_false, Option.isNone_some, Option.isNone_none, Option.isSome_some, Option.isSome_none, beq_self_eq_true, bne_self_eq_false, Bool.and_true, Bool.true_and, Bool.and_false, Bool.false_and, not_true_eq_false, not_false_eq_true]
theorem tl1215 (h : PS W x tb D DL A ql L) {n0 n1 : Int} (hp : Blk x r.2.heap.size [.int .i64 n0, .int .i64 n1] 3) :
    ∃ x', g3_l1215 (some ⟨tb, 0, none⟩) (f0, ql, k0) u0 r (f, 0) x = some (.normal, (f, ql, IntKind.i64.wrap (k0 + 1)), x') ∧ PS W x' tb D DL A ql L := by
  obtain ⟨t, x', g1, rfl, h', _⟩ := loopS_countX 5 (b := g3_l1215_b r (some ⟨tb, 0, none⟩) (f0, ql, k0) u0) (I := fun k s y => s = (f, (k : Int)) ∧ PS W y tb D DL A ql L ∧ Blk y r.2.heap.size [.int .i64 n0, .int .i64 n1] 3) (n := 2)
    (fun k s y hk ⟨hs, h, hp⟩ => by
      subst hs
      obtain ⟨x', e, h', hp'⟩ := tr1215 h hp hk
      exact ⟨_, x', e, rfl, h', hp'⟩)
    (fun s y ⟨hs, _⟩ => by
      subst hs
      unfold g3_l1215_b
      rfl) (k := 0) (s := (f, 0)) (w := x) (by omega) ⟨rfl, h, hp⟩
  refine ⟨x', ?_, h'⟩
  rw [g3_l1215_x5_of g1]
  unfold g3_l1215_x5
  rfl
end

/-! ### the names of a call: copy 1322 -/
section
variable {W x : World} {tb : Nat} {D DL : Nat → Prop} {A : List (Int × TV)} {ql : Sh} {L : List (RV × Sh)} {r : Value × World} {u0 qs : Sh} {f0 f : Bool} {k0 : Int}
theorem tr1322 (h : PS W x tb D DL A ql L) {n0 n1 : Int} (hp : Blk x r.2.heap.size [.int .i64 n0, .int .i64 n1] 3) {k : Nat} (hk : k < 2) :
    ∃ x', g3_l1322_b r (some ⟨tb, 0, none⟩) (f0, ql, k0) u0 (f, (k : Int)) x = some (.normal, (f, ((k + 1 : Nat) : Int)), x') ∧ PS W x' tb D DL A ql L ∧ Blk x' r.2.heap.size [.int .i64 n0, .int .i64 n1] 3 := by
  have z0 := h.fr.size
  obtain ⟨n, i1, c1⟩ : ∃ n, idxA (some ⟨r.2.heap.size, 0, none⟩) 2 1 (k : Int) = some ⟨r.2.heap.size, k, none⟩ ∧ x.cell? ⟨r.2.heap.size, k, none⟩ = some (.int .i64 n) := by
    have i : idxA (some ⟨r.2.heap.size, 0, none⟩) 2 1 (k : Int) = some ⟨r.2.heap.size, k, none⟩ := by
      unfold idxA
      rw [if_pos (by omega)]
      simp [addr_add]
    match k, hk with
    | 0, _ => exact ⟨n0, i, hp.cell 0⟩
    | 1, _ => exact ⟨n1, i, hp.cell 1⟩
  obtain ⟨q1, x1, e1, f1, o1, m1⟩ := tx21 h.tab n (h.lenM n)
  obtain ⟨x2, s2, b2, f2⟩ := newT2 x1 (tvOf A n) q1
  have fd := Fr.drew [] x2
  have F2 : Fr [] x x2.drew := (Fr.mono (Fr.app (Fr.app f1 f2) fd) (by have z0_ := Fr.size f1; have z1_ := Fr.size f2; have z2_ := Fr.size fd; intro y_ hy_ hl_; grind [blkOf]))
  have h2 := h.step F2 (by simp)
  obtain ⟨q3, x3, e3, f3, o3, m3⟩ := tx23 h2.rl n h2.sum
  have hsn := h.len n
  rw [← h.says n] at e3 o3
  obtain ⟨t, ht⟩ : ∃ t, tvOf A n = t := ⟨_, rfl⟩
  rw [ht] at e1 o1 s2 b2 e3 o3 hsn
  have b2d := b2.fr fd (by simp)
  have l2 := b2d.ldN (n := 8) rfl
  have b3 := b2d.fr f3 (by simp)
  have l3 := b3.ldN (n := 8) rfl
  have O1 := ((o1.fr f2 (by simp)).fr fd (by simp)).fr f3 (by simp)
  obtain ⟨x4, e4, f4⟩ := sameTx22 x3 t O1.slC o3.slC (by omega)
  have O4 := O1.fr f4 (by simp)
  have b4 := b3.fr f4 (by simp)
  have nT : x1.heap.size ∉ blkOf q1 := b4.notin O4 (by decide)
  have c4 : x4.cell? ⟨x1.heap.size, 4, none⟩ = some (.slice q1.1 q1.2.1 q1.2.2) := b4.cell 4
  obtain ⟨t5, x5, g5, f5⟩ := nines (X := 7) b4 (c := 4) rfl O4 nT
  have h4 := (h2.step f3 (by simp)).step f4 (by simp)
  have lt := h.tab.lt
  have ltL := h.rl.lt
  have h5 := h4.step f5 (fun y hy => ⟨by have := m1 y hy; omega, fun hd => by have := m1 y hy; have := lt y hd; omega, fun hd => by have := m1 y hy; have := ltL y hd; omega⟩)
  have hp4 : Blk x4 r.2.heap.size [.int .i64 n0, .int .i64 n1] 3 := ((hp.fr F2 (by simp)).fr f3 (by simp)).fr f4 (by simp)
  have lp := hp.lt
  have hp5 := hp4.fr f5 (fun hm => by have := m1 _ hm; omega)
  refine ⟨x5, ?_, h5, hp5⟩
  have k1 : decide ((k : Int) < 2) = true := by simp; omega
  have hw := wrap_succ (n := k) (by omega)
  simp only [TV.arg] at e1 e3 e4
  simp only [TV.cs] at l2 l3
  unfold g3_l1322_b
  simp only [k1, i1, c1, e1, s2, addr_add, Nat.zero_add, l2, e3, l3, ite_self, obs, asP_pointer, asB_bool, asI_int, asS_string, asSl_slice, asM_map, asTup0, asTup1, asTup2, asTup3, asTup4, asTup5, asTup6, asTup7, asTup8, asTup9, asAgg2, asAgg3, asAgg4, asAgg5, asAgg6, asAgg7, asAgg8, asAgg9, asAgg12, getD0, getD1, getD2, getD3, getD4, getD5, getD6, getD7, getD8, getD9, getD10, getD11, getD12, getD13, getD14, getD15, getD16, getD17, getD18, getD19, Bool.not_true, Bool.not_false, Bool.false_eq_true, Bool.true_eq_false, ↓reduceIte, decide_true, decide_false, Option.isNone_some, Option.isNone_none, Option.isSome_some, Option.isSome_none, beq_self_eq_true, bne_self_eq_false, Bool.and_true, Bool.true_and, Bool.and_false, Bool.false_and, not_true_eq_false, not_false_eq_true]
  unfold g3_j1372
  simp only [e4, addr_add, Nat.zero_add, c4, obs, asP_pointer, asB_bool, asI_int, asS_string, asSl_slice, asM_map, asTup0, asTup1, asTup2, asTup3, asTup4, asTup5, asTup6, asTup7, asTup8, asTup9, asAgg2, asAgg3, asAgg4, asAgg5, asAgg6, asAgg7, asAgg8, asAgg9, asAgg12, getD0, getD1, getD2, getD3, getD4, getD5, getD6, getD7, getD8, getD9, getD10, getD11, getD12, getD13, getD14, getD15, getD16, getD17, getD18, getD19, Bool.not_true, Bool.not_false, Bool.false_eq_true, Bool.true_eq_false, ↓reduceIte, decide_true, decide_false, Option.isNone_some, Option.isNone_none, Option.isSome_some, Option.isSome_none, beq_self_eq_true, bne_self_eq_false, Bool.and_true, Bool.true_and, Bool.and_false, Bool.false_and, not_true_eq_false, not_false_eq_true]
  refine (g3_l1406_x7_of (t := t5) (w' := x5) ?_).trans ?_
  · exact g5
  · unfold g3_l1406_x7
    simp only [hw, obs, asP_pointer, asB_bool, asI_int, asS_string, asSl_slice, asM_map, asTup0, asTup1, asTup2, asTup3, asTup4, asTup5, asTup6, asTup7, asTup8, asTup9, asAgg2, asAgg3, asAgg4, asAgg5, asAgg6, asAgg7, asAgg8, asAgg9, asAgg12, getD0, getD1, getD2, getD3, getD4, getD5, getD6, getD7, getD8, getD9, getD10, getD11, getD12, getD13, getD14, getD15, getD16, getD17, getD18, getD19, Bool.not_true, Bool.not_false, Bool.false_eq_true, Bool.true_eq_false, ↓reduceIte, decide_true, decide_false, Option.isNone_some, Option.isNone_none, Option.isSome_some, Option.isSome_none, beq_self_eq_true, bne_self_eq_false, Bool.and_true, Bool.true_and, Bool.and_false, Bool.false_and, not_true_eq_false, not_false_eq_true]
theorem tl1322 (h : PS W x tb D DL A ql L) {n0 n1 : Int} (hp : Blk x r.2.heap.size [.int .i64 n0, .int .i64 n1] 3) :
    ∃ x', g3_l1322 (some ⟨tb, 0, none⟩) (f0, ql, k0) u0 r (f, 0) x = some (.normal, (f, ql, IntKind.i64.wrap (k0 + 1)), x') ∧ PS W x' tb D DL A ql L := by
  obtain ⟨t, x', g1, rfl, h', _⟩ := loopS_countX 5 (b := g3_l1322_b r (some ⟨tb, 0, none⟩) (f0, ql, k0) u0) (I := fun k s y => s = (f, (k : Int)) ∧ PS W y tb D DL A ql L ∧ Blk y r.2.heap.size [.int .i64 n0, .int .i64 n1] 3) (n := 2)
    (fun k s y hk ⟨hs, h, hp⟩ => by
      subst hs
      obtain ⟨x', e, h', hp'⟩ := tr1322 h hp hk
      exact ⟨_, x', e, rfl, h', hp'⟩)
    (fun s y ⟨hs, _⟩ => by
      subst hs
      unfold g3_l1322_b
      rfl) (k := 0) (s := (f, 0)) (w := x) (by omega) ⟨rfl, h, hp⟩
  refine ⟨x', ?_, h'⟩
  rw [g3_l1322_x5_of g1]
  unfold g3_l1322_x5
  rfl
end
end Go.Proofs.Ytlcojbodcbjkaaa
