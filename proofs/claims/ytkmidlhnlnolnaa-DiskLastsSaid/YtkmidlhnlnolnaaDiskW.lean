/-
  DiskW: lemmas on what Go functions of this seat come to (for whatever arguments, as each says). No condition but those that stand in each lemma.
-/
import Derived.Test.YtkmidlhnlnolnaaDiskV
import Derived.Test.YtkmidlhnlnolnaaDiskR1
namespace Go.Proofs.Ytkmidlhnlnolnaa
open Go Go.Ev
set_option maxRecDepth 100000
set_option linter.unusedVariables false
set_option linter.unusedSimpArgs false

/-! ## the document's disk in memory -/
structure RE where
  name : ByteArray
  q : ShS
  data : List Int
  syn : Nat
def RE.cs (f : RE) : List Value := [.string f.name, .slice f.q.1 f.q.2.1 f.q.2.2, .int .i64 (f.syn : Int)]
def RE.ab (f : RE) : ByteArray × FV := (f.name, f.data, f.syn)
def reCs (l : List RE) : List Value := (l.map RE.cs).flatten
def Dis (f g : RE) : Prop := ∀ y, y ∈ blkOf f.q → y ∉ blkOf g.q
theorem Dis.symm {f g : RE} (h : Dis f g) : Dis g f := fun y hy hy' => h y hy' hy
theorem recs_len (f : RE) : f.cs.length = 3 := rfl
theorem recs_oc (f : RE) : ∀ u ∈ f.cs, u.oneCell' = true := by
  intro u hu
  simp only [RE.cs, List.mem_cons, List.not_mem_nil, or_false] at hu
  rcases hu with rfl | rfl | rfl <;> rfl
theorem reCs_len (l : List RE) : (reCs l).length = 3 * l.length := by
  unfold reCs
  induction l with
  | nil => rfl
  | cons f l ih => rw [List.map_cons, List.flatten_cons, List.length_append, ih, recs_len, List.length_cons]; omega
theorem reCs_app (l l' : List RE) : reCs (l ++ l') = reCs l ++ reCs l' := by unfold reCs; simp

structure REok (w : World) (E : Nat → Prop) (f : RE) : Prop where
  own : Own w 5 1 f.q (f.data.map (Value.int .u8))
  zs : Zs f.data
  reg : ∀ y ∈ blkOf f.q, E y
theorem REok.fr {w w' : World} {E E' : Nat → Prop} {f : RE} {S : List Nat} (h : REok w E f) (hf : Fr S w w') (hS : ∀ y ∈ blkOf f.q, y ∉ S) (hE : ∀ y, E y → E' y) : REok w' E' f :=
  ⟨h.own.fr hf hS, h.zs, fun y hy => hE y (h.reg y hy)⟩

structure RD (w : World) (E : Nat → Prop) (b : Nat) (qf : ShS) (es : List RE) (fuse : Int) (dead : Bool) : Prop where
  blk : Blk w b [.slice qf.1 qf.2.1 qf.2.2, .int .i64 fuse, .bool dead] 51
  own : Own w 53 3 qf (reCs es)
  ok : ∀ f ∈ es, REok w E f
  ap : es.Pairwise Dis
  eb : E b
  rq : ∀ y ∈ blkOf qf, E y
  lt : ∀ y, E y → y < w.heap.size
  us : used (es.map RE.ab) ≤ 4194304
  le : es.length ≤ 4096

section
variable {w : World} {E : Nat → Prop} {b : Nat} {qf : ShS} {es : List RE} {fuse : Int} {dead : Bool}
theorem RD.fr {w' : World} {S : List Nat} (h : RD w E b qf es fuse dead) (hf : Fr S w w') (hS : ∀ y ∈ S, y < w.heap.size → ¬ E y) : RD w' E b qf es fuse dead := by
  have hS' : ∀ y, E y → y ∉ S := fun y hy hm => hS y hm (h.lt y hy) hy
  exact ⟨h.blk.fr hf (hS' _ h.eb), h.own.fr hf (fun y hy => hS' y (h.rq y hy)), fun f hm => (h.ok f hm).fr hf (fun y hy => hS' y ((h.ok f hm).reg y hy)) (fun _ => id), h.ap, h.eb, h.rq, fun y hy => by have := h.lt y hy; have := hf.size; omega, h.us, h.le⟩
theorem RD.flen (h : RD w E b qf es fuse dead) : qf.2.1 = es.length := by have := h.own.len; rw [reCs_len] at this; omega
theorem RD.c0 (h : RD w E b qf es fuse dead) : w.cell? ⟨b, 0, none⟩ = some (.slice qf.1 qf.2.1 qf.2.2) := h.blk.cell 0
theorem RD.c1 (h : RD w E b qf es fuse dead) : w.cell? ⟨b, 1, none⟩ = some (.int .i64 fuse) := h.blk.cell 1
theorem RD.c2 (h : RD w E b qf es fuse dead) : w.cell? ⟨b, 2, none⟩ = some (.bool dead) := h.blk.cell 2

theorem re_at {w : World} {qf : ShS} {es : List RE} (o : Own w 53 3 qf (reCs es)) {k : Nat} (hk : k < es.length) :
    ∃ g off, qf.1 = some ⟨g, off, none⟩ ∧ idxA qf.1 qf.2.1 3 (k : Int) = some ⟨g, off + k * 3, none⟩ ∧ ldN w ⟨g, off + k * 3, none⟩ 0 3 = some es[k].cs ∧
      (∀ j, j < 3 → w.cell? ⟨g, off + k * 3 + j, none⟩ = es[k].cs[j]?) ∧
      (∀ j, j < 3 → ∀ (f : RE) (v : Value), v.oneCell' = true → f.cs = es[k].cs.set j v → ∃ w', st1 w ⟨g, off + k * 3 + j, none⟩ v = some w' ∧ Own w' 53 3 qf (reCs (es.set k f)) ∧ Fr (blkOf qf) w w') := by
  have hl := o.len
  have hl3 := reCs_len es
  have hq : k < qf.2.1 := by omega
  obtain ⟨g, off, ha, hi⟩ := o.idx hq
  have key : ∀ (l : List RE) (k j : Nat) (hk : k < l.length), j < 3 → (reCs l)[k * 3 + j]? = l[k].cs[j]? := by
    intro l
    induction l with
    | nil => intro k j hk; simp at hk
    | cons e l ih =>
      intro k j hk hj
      have e1 : reCs (e :: l) = e.cs ++ reCs l := by unfold reCs; simp
      rw [e1]
      cases k with
      | zero => rw [List.getElem?_append_left (by rw [recs_len]; omega)]; simp
      | succ k =>
        rw [List.getElem?_append_right (by rw [recs_len]; omega), recs_len]
        have : (k + 1) * 3 + j - 3 = k * 3 + j := by omega
        rw [this, ih k j (by simpa using hk) hj]
        simp
  have kset : ∀ (l : List RE) (k j : Nat) (f : RE) (v : Value) (hk : k < l.length), j < 3 → f.cs = l[k].cs.set j v → (reCs l).set (k * 3 + j) v = reCs (l.set k f) := by
    intro l
    induction l with
    | nil => intro k j f v hk; simp at hk
    | cons e l ih =>
      intro k j f v hk hj hf
      have e1 : reCs (e :: l) = e.cs ++ reCs l := by unfold reCs; simp
      rw [e1]
      cases k with
      | zero =>
        rw [List.set_append_left _ _ (by rw [recs_len]; omega)]
        have e2 : reCs ((e :: l).set 0 f) = f.cs ++ reCs l := by unfold reCs; simp
        rw [e2, hf]; simp
      | succ k =>
        rw [List.set_append_right _ _ (by rw [recs_len]; omega), recs_len]
        have : (k + 1) * 3 + j - 3 = k * 3 + j := by omega
        rw [this, ih k j f v (by simpa using hk) hj (by simpa using hf)]
        have e2 : reCs ((e :: l).set (k + 1) f) = e.cs ++ reCs (l.set k f) := by unfold reCs; simp
        rw [e2]
  have cell : ∀ j, j < 3 → w.cell? ⟨g, off + k * 3 + j, none⟩ = es[k].cs[j]? := by
    intro j hj
    have hlt : k * 3 + j < (reCs es).length := by omega
    have := o.get ha (k * 3 + j) hlt
    rw [Nat.add_assoc, this, ← List.getElem?_eq_getElem hlt, key es k j hk hj]
  refine ⟨g, off, ha, hi, ldN_of_cells (cs := es[k].cs) (i := 0) fun i hi => ?_, cell, fun j hj f v hv hf => ?_⟩
  · rw [addr_add, Nat.zero_add, cell i hi, List.getElem?_eq_getElem hi]
  · obtain ⟨s, o', f'⟩ := o.set ha (k := k * 3 + j) (by omega) hv
    rw [kset es k j f v hk hj hf] at o'
    exact ⟨_, by rw [Nat.add_assoc]; exact s, o', f'⟩

theorem used_app (A B : List (ByteArray × FV)) : used (A ++ B) = used A + used B := by unfold used; rw [List.map_append, List.sum_append]

/-- a file's place -/
def atN (A : List (ByteArray × FV)) (n : ByteArray) : Int := match A.findIdx? (fun p => decide (p.1 = n)) with | some i => (i : Int) | none => -1

theorem at37 (h : RD w E b qf es fuse dead) (n : ByteArray) : callF Try.prog 37 #[.pointer (some ⟨b, 0, none⟩), .string n] w = some (.int .i64 (atN (es.map RE.ab) n), w) := by
  have hfl := h.flen
  have hle := h.le
  obtain ⟨e, t, w', g1, hQ⟩ := loopS_rule (b := g37_l1_b (some ⟨b, 0, none⟩) n) (n := es.length)
    (I := fun k s x => x = w ∧ s = (0, (k : Int)) ∧ ∀ i (hi : i < es.length), i < k → es[i].name ≠ n)
    (Q := fun e s x => x = w ∧ (e = .ret ∧ s.1 = atN (es.map RE.ab) n ∨ e = .exit 0 ∧ atN (es.map RE.ab) n = -1))
    (fun k s x hk ⟨hx, hs, hn⟩ => by
      subst hx hs
      obtain ⟨g, off, ha, hi, _, hc, _⟩ := re_at h.own hk
      have c0 : x.cell? ⟨g, off + k * 3, none⟩ = some (.string es[k].name) := by have := hc 0 (by decide); simpa [RE.cs] using this
      have k0 : decide ((k : Int) < (qf.2.1 : Int)) = true := by simp; omega
      by_cases he : es[k].name = n
      · have q : (es[k].name.toList == n.toList) = true := by rw [str_eq]; exact decide_eq_true he
        refine ⟨.ret, ((k : Int), (k : Int)), x, ?_, .inr ⟨by simp, rfl, .inl ⟨rfl, ?_⟩⟩⟩
        · unfold g37_l1_b
          simp only [h.c0, k0, hi, c0, q, obs, asP_pointer, asB_bool, asI_int, asS_string, asSl_slice, asM_map, asTup0, asTup1, asTup2, asTup3, asTup4, asTup5, asTup6, asTup7, asTup8, asTup9, asAgg2, asAgg3, asAgg4, asAgg5, asAgg6, asAgg7, asAgg8, asAgg9, asAgg12, getD0, getD1, getD2, getD3, getD4, getD5, getD6, getD7, getD8, getD9, getD10, getD11, getD12, getD13, getD14, getD15, getD16, getD17, getD18, getD19, Bool.not_true, Bool.not_false, Bool.false_eq_true, Bool.true_eq_false, ↓reduceIte, decide_true, decide_false, Option.isNone_some, Option.isNone_none, Option.isSome_some, Option.isSome_none, beq_self_eq_true, bne_self_eq_false, Bool.and_true, Bool.true_and, Bool.and_false, Bool.false_and, not_true_eq_false, not_false_eq_true]
        · unfold atN
          have : (es.map RE.ab).findIdx? (fun p => decide (p.1 = n)) = some k := by
            rw [List.findIdx?_eq_some_iff_getElem]
            refine ⟨by simpa using hk, by simp [RE.ab, he], fun j hj => ?_⟩
            have := hn j (by omega) hj
            simp [RE.ab, this]
          rw [this]
      · have q : (es[k].name.toList == n.toList) = false := by
          rw [str_eq]; exact decide_eq_false he
        have kw := wrap_succ (n := k) (by omega)
        refine ⟨.normal, (0, ((k + 1 : Nat) : Int)), x, ?_, .inl ⟨rfl, rfl, rfl, fun i hi hik => ?_⟩⟩
        · unfold g37_l1_b
          simp only [h.c0, k0, hi, c0, q, kw, obs, asP_pointer, asB_bool, asI_int, asS_string, asSl_slice, asM_map, asTup0, asTup1, asTup2, asTup3, asTup4, asTup5, asTup6, asTup7, asTup8, asTup9, asAgg2, asAgg3, asAgg4, asAgg5, asAgg6, asAgg7, asAgg8, asAgg9, asAgg12, getD0, getD1, getD2, getD3, getD4, getD5, getD6, getD7, getD8, getD9, getD10, getD11, getD12, getD13, getD14, getD15, getD16, getD17, getD18, getD19, Bool.not_true, Bool.not_false, Bool.false_eq_true, Bool.true_eq_false, ↓reduceIte, decide_true, decide_false, Option.isNone_some, Option.isNone_none, Option.isSome_some, Option.isSome_none, beq_self_eq_true, bne_self_eq_false, Bool.and_true, Bool.true_and, Bool.and_false, Bool.false_and, not_true_eq_false, not_false_eq_true]
        · by_cases hik' : i = k
          · subst hik'; exact he
          · exact hn i hi (by omega))
    (fun s x ⟨hx, hs, hn⟩ => by
      subst hx hs
      refine ⟨.exit 0, (0, (es.length : Int)), x, ?_, by simp, rfl, .inr ⟨rfl, ?_⟩⟩
      · have k0 : decide ((es.length : Int) < (qf.2.1 : Int)) = false := by simp; omega
        unfold g37_l1_b
        simp only [h.c0, k0, obs, asP_pointer, asB_bool, asI_int, asS_string, asSl_slice, asM_map, asTup0, asTup1, asTup2, asTup3, asTup4, asTup5, asTup6, asTup7, asTup8, asTup9, asAgg2, asAgg3, asAgg4, asAgg5, asAgg6, asAgg7, asAgg8, asAgg9, asAgg12, getD0, getD1, getD2, getD3, getD4, getD5, getD6, getD7, getD8, getD9, getD10, getD11, getD12, getD13, getD14, getD15, getD16, getD17, getD18, getD19, Bool.not_true, Bool.not_false, Bool.false_eq_true, Bool.true_eq_false, ↓reduceIte, decide_true, decide_false, Option.isNone_some, Option.isNone_none, Option.isSome_some, Option.isSome_none, beq_self_eq_true, bne_self_eq_false, Bool.and_true, Bool.true_and, Bool.and_false, Bool.false_and, not_true_eq_false, not_false_eq_true]
      · unfold atN
        have : (es.map RE.ab).findIdx? (fun p => decide (p.1 = n)) = none := by
          rw [List.findIdx?_eq_none_iff]
          intro p hp
          obtain ⟨f, hf, rfl⟩ := List.mem_map.mp hp
          obtain ⟨i, hi, rfl⟩ := List.getElem_of_mem hf
          exact decide_eq_false (hn i hi hi)
        rw [this])
    (k := 0) (s := (0, 0)) (w := w) (Nat.zero_le _) ⟨rfl, rfl, fun i hi h0 => absurd h0 (by omega)⟩
  refine g37_call ?_
  unfold g37
  obtain ⟨t1, t2⟩ := t
  rcases hQ with ⟨rfl, ⟨rfl, h1⟩ | ⟨rfl, h1⟩⟩
  · simp only at h1
    rw [g37_l1_ret_of g1, g37_l1_ret, h1]
  · rw [g37_l1_x0_of g1, g37_l1_x0, h1]

theorem used38 (h : RD w E b qf es fuse dead) : callF Try.prog 38 #[.pointer (some ⟨b, 0, none⟩)] w = some (.int .i64 ((used (es.map RE.ab) : Nat) : Int), w) := by
  have hfl := h.flen
  have hle := h.le
  have hus := h.us
  have tk : ∀ k (hk : k < es.length), used ((es.take (k + 1)).map RE.ab) = used ((es.take k).map RE.ab) + es[k].data.length := by
    intro k hk
    rw [(List.take_append_getElem hk).symm, List.map_append, used_app]
    simp [used, RE.ab]
  have bd : ∀ k, used ((es.take k).map RE.ab) ≤ used (es.map RE.ab) := by
    intro k
    conv => rhs; rw [← List.take_append_drop k es, List.map_append, used_app]
    omega
  obtain ⟨t, w', g1, hw, ht⟩ := loopS_countX 0 (b := g38_l1_b (some ⟨b, 0, none⟩)) (n := es.length)
    (I := fun k s x => x = w ∧ s = (((used ((es.take k).map RE.ab) : Nat) : Int), (k : Int)))
    (fun k s x hk ⟨hx, hs⟩ => by
      subst hx hs
      obtain ⟨g, off, ha, hi, _, hc, _⟩ := re_at h.own hk
      have c1 : x.cell? ⟨g, off + k * 3 + 1, none⟩ = some (.slice es[k].q.1 es[k].q.2.1 es[k].q.2.2) := by have := hc 1 (by decide); simpa [RE.cs] using this
      have k0 : decide ((k : Int) < (qf.2.1 : Int)) = true := by simp; omega
      have kw := wrap_succ (n := k) (by omega)
      have ql := (h.ok _ (List.getElem_mem hk)).own.len
      simp at ql
      have e := tk k hk
      have b1 := bd (k + 1)
      have sw : IntKind.i64.wrap (((used ((es.take k).map RE.ab) : Nat) : Int) + (es[k].q.2.1 : Int)) = ((used ((es.take (k + 1)).map RE.ab) : Nat) : Int) := by
        rw [wrap_i64 (by omega) (by omega), e]; omega
      refine ⟨_, x, ?_, rfl, rfl⟩
      unfold g38_l1_b
      simp only [h.c0, k0, hi, addr_add, c1, sw, kw, obs, asP_pointer, asB_bool, asI_int, asS_string, asSl_slice, asM_map, asTup0, asTup1, asTup2, asTup3, asTup4, asTup5, asTup6, asTup7, asTup8, asTup9, asAgg2, asAgg3, asAgg4, asAgg5, asAgg6, asAgg7, asAgg8, asAgg9, asAgg12, getD0, getD1, getD2, getD3, getD4, getD5, getD6, getD7, getD8, getD9, getD10, getD11, getD12, getD13, getD14, getD15, getD16, getD17, getD18, getD19, Bool.not_true, Bool.not_false, Bool.false_eq_true, Bool.true_eq_false, ↓reduceIte, decide_true, decide_false, Option.isNone_some, Option.isNone_none, Option.isSome_some, Option.isSome_none, beq_self_eq_true, bne_self_eq_false, Bool.and_true, Bool.true_and, Bool.and_false, Bool.false_and, not_true_eq_false, not_false_eq_true])
    (fun s x ⟨hx, hs⟩ => by
      subst hx hs
      have k0 : decide ((es.length : Int) < (qf.2.1 : Int)) = false := by simp; omega
      unfold g38_l1_b
      simp only [h.c0, k0, obs, asP_pointer, asB_bool, asI_int, asS_string, asSl_slice, asM_map, asTup0, asTup1, asTup2, asTup3, asTup4, asTup5, asTup6, asTup7, asTup8, asTup9, asAgg2, asAgg3, asAgg4, asAgg5, asAgg6, asAgg7, asAgg8, asAgg9, asAgg12, getD0, getD1, getD2, getD3, getD4, getD5, getD6, getD7, getD8, getD9, getD10, getD11, getD12, getD13, getD14, getD15, getD16, getD17, getD18, getD19, Bool.not_true, Bool.not_false, Bool.false_eq_true, Bool.true_eq_false, ↓reduceIte, decide_true, decide_false, Option.isNone_some, Option.isNone_none, Option.isSome_some, Option.isSome_none, beq_self_eq_true, bne_self_eq_false, Bool.and_true, Bool.true_and, Bool.and_false, Bool.false_and, not_true_eq_false, not_false_eq_true])
    (k := 0) (s := (0, 0)) (w := w) (Nat.zero_le _) ⟨rfl, by simp [used]⟩
  subst hw
  refine g38_call ?_
  unfold g38
  rw [g38_l1_x0_of g1, g38_l1_x0, ht, List.take_length]

theorem find40 (h : RD w E b qf es fuse dead) (n : ByteArray) : callF Try.prog 40 #[.pointer (some ⟨b, 0, none⟩), .string n] w = some (.tuple #[.int .i64 (if dead = true then -1 else atN (es.map RE.ab) n), .int .i64 (if dead = true then 9 else if atN (es.map RE.ab) n < 0 then 4 else 0)], w) := by
  have e := at37 h n
  refine g40_call ?_
  cases dead with
  | true =>
    unfold g40
    simp only [addr_add, Nat.zero_add, h.c2, obs, asP_pointer, asB_bool, asI_int, asS_string, asSl_slice, asM_map, asTup0, asTup1, asTup2, asTup3, asTup4, asTup5, asTup6, asTup7, asTup8, asTup9, asAgg2, asAgg3, asAgg4, asAgg5, asAgg6, asAgg7, asAgg8, asAgg9, asAgg12, getD0, getD1, getD2, getD3, getD4, getD5, getD6, getD7, getD8, getD9, getD10, getD11, getD12, getD13, getD14, getD15, getD16, getD17, getD18, getD19, Bool.not_true, Bool.not_false, Bool.false_eq_true, Bool.true_eq_false, ↓reduceIte, decide_true, decide_false, Option.isNone_some, Option.isNone_none, Option.isSome_some, Option.isSome_none, beq_self_eq_true, bne_self_eq_false, Bool.and_true, Bool.true_and, Bool.and_false, Bool.false_and, not_true_eq_false, not_false_eq_true]
  | false =>
    by_cases hn : atN (es.map RE.ab) n < 0
    · have k : decide (atN (es.map RE.ab) n < 0) = true := by simp only [hn, decide_true]
      have hm : atN (es.map RE.ab) n = -1 := by unfold atN at hn ⊢; split at hn <;> first | omega | rfl
      unfold g40
      simp only [addr_add, Nat.zero_add, h.c2, e, k, obs, asP_pointer, asB_bool, asI_int, asS_string, asSl_slice, asM_map, asTup0, asTup1, asTup2, asTup3, asTup4, asTup5, asTup6, asTup7, asTup8, asTup9, asAgg2, asAgg3, asAgg4, asAgg5, asAgg6, asAgg7, asAgg8, asAgg9, asAgg12, getD0, getD1, getD2, getD3, getD4, getD5, getD6, getD7, getD8, getD9, getD10, getD11, getD12, getD13, getD14, getD15, getD16, getD17, getD18, getD19, Bool.not_true, Bool.not_false, Bool.false_eq_true, Bool.true_eq_false, ↓reduceIte, decide_true, decide_false, Option.isNone_some, Option.isNone_none, Option.isSome_some, Option.isSome_none, beq_self_eq_true, bne_self_eq_false, Bool.and_true, Bool.true_and, Bool.and_false, Bool.false_and, not_true_eq_false, not_false_eq_true]
      rw [if_pos hn, hm]
    · have k : decide (atN (es.map RE.ab) n < 0) = false := by simp only [hn, decide_false]
      unfold g40
      simp only [addr_add, Nat.zero_add, h.c2, e, k, obs, asP_pointer, asB_bool, asI_int, asS_string, asSl_slice, asM_map, asTup0, asTup1, asTup2, asTup3, asTup4, asTup5, asTup6, asTup7, asTup8, asTup9, asAgg2, asAgg3, asAgg4, asAgg5, asAgg6, asAgg7, asAgg8, asAgg9, asAgg12, getD0, getD1, getD2, getD3, getD4, getD5, getD6, getD7, getD8, getD9, getD10, getD11, getD12, getD13, getD14, getD15, getD16, getD17, getD18, getD19, Bool.not_true, Bool.not_false, Bool.false_eq_true, Bool.true_eq_false, ↓reduceIte, decide_true, decide_false, Option.isNone_some, Option.isNone_none, Option.isSome_some, Option.isSome_none, beq_self_eq_true, bne_self_eq_false, Bool.and_true, Bool.true_and, Bool.and_false, Bool.false_and, not_true_eq_false, not_false_eq_true]
      rw [if_neg hn]
end
end Go.Proofs.Ytkmidlhnlnolnaa
