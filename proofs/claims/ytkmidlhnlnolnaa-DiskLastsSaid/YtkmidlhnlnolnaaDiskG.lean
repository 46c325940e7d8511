/-
  DiskG: lemmas on what Go functions of this seat come to (for whatever arguments, as each says). No condition but those that stand in each lemma.
-/
import Derived.Test.YtkmidlhnlnolnaaDiskE
namespace Go.Proofs.Ytkmidlhnlnolnaa
open Go Go.Ev
set_option maxRecDepth 100000
set_option linter.unusedVariables false
set_option linter.unusedSimpArgs false

/-- the first j, with no more room -/
theorem slc3 {u : Option Addr × Nat × Nat} {j : Nat} (hj : j ≤ u.2.2) :
    slc u.1 u.2.1 u.2.2 1 none (some (j : Int)) (some (j : Int)) = some (u.1, j, j) := by
  have : (if j = 0 then u.1 else u.1.map fun x => x.add 0) = u.1 := by
    split
    · rfl
    · cases u.1 <;> simp [addr_add0]
  simp [slc, bnd, hj, this]

theorem Own.cut {w : World} {e : TypeId} {v : Option Addr × Nat × Nat} {xs : List Value} (h : Own w e 1 v xs) {j : Nat} (hj : j ≤ v.2.1) : Own w e 1 (v.1, j, j) (xs.take j) := by
  have hl := h.len
  have hle := h.le
  have hmx := h.max
  refine ⟨by simp; omega, Nat.le_refl _, by show j ≤ maxLen; omega, ?_⟩
  rcases h.at_ with ⟨h1, h2⟩ | ⟨g, off, cur, h1, h2, h3, h4⟩
  · exact .inl ⟨h1, by show j = 0; omega⟩
  · refine .inr ⟨g, off, cur, h1, h2, by show off + j * 1 ≤ cur.size; omega, ?_⟩
    show (cur.toList.drop off).take (j * 1) = xs.take j
    rw [← h4, List.take_take]
    congr 1; omega

section
variable {w : World} {D : Nat → Prop} {b : Nat} {A : List (ByteArray × FV)} {fuse : Int} {dead : Bool}

/-- one file was written in its place -/
theorem dk_put {r : Nat} {fs : List FE} {w' : World} {S : List Nat} {D' : Nat → Prop} {fuse' : Int} {dead' : Bool} {i : Nat} (hi : i < fs.length) {f : FE} (hn : f.name = fs[i].name) (hfb : f.fb = fs[i].fb)
    (hb0 : Blk w b [.map (some r), .int .i64 fuse, .bool dead, .int .i64 ((used (fs.map FE.ab) : Nat) : Int)] 59) (hm : MapAt Value.string w r (keysOf fs)) (hfs : Fs w D fs) (hDr : D r) (hDb : D b) (hlt : ∀ y, D y → y < w.heap.size)
    (F : Fr S w w') (hS : ∀ y ∈ S, y = b ∨ y = fs[i].fb ∨ y ∈ blkOf fs[i].q) (hD : ∀ y, D y → D' y) (hD2 : ∀ y, D' y → D y ∨ w.heap.size ≤ y ∧ y < w'.heap.size)
    (hb : Blk w' b [.map (some r), .int .i64 fuse', .bool dead', .int .i64 ((used ((fs.map FE.ab).set i f.ab) : Nat) : Int)] 59) (ok : FeOk w' D' f) (hq : ∀ y ∈ blkOf f.q, y ∈ blkOf fs[i].q ∨ w.heap.size ≤ y)
    (hfuse : -1 ≤ fuse' ∧ fuse' ≤ 9223372036854775807) (hused : used ((fs.map FE.ab).set i f.ab) ≤ 4194304) (hlen : fs.length ≤ 4096) :
    Dk w' D' b ((fs.map FE.ab).set i f.ab) fuse' dead' ∧ Chg D w w' D' := by
  have ok0 := hfs.ok i hi
  have rb : r ≠ b := hm.ne_blk hb0
  have rf : r ≠ fs[i].fb := hm.ne_blk ok0.blk
  have rq : r ∉ blkOf fs[i].q := hm.notin ok0.own
  have hset : (fs.map FE.ab).set i f.ab = (fs.set i f).map FE.ab := by rw [List.map_set]
  have hkeys : keysOf (fs.set i f) = keysOf fs := by
    unfold keysOf
    rw [List.map_set]
    apply List.ext_getElem
    · simp
    · intro j h1 h2
      rw [List.getElem_set]
      split
      · rename_i h; subst h; simp [hn, hfb]
      · rfl
  have hsz := F.size
  refine ⟨⟨⟨r, fs.set i f, hset, hb, ?_, ?_, hD r hDr⟩, hD b hDb, ?_, hfuse, hused, by simp; omega⟩, ⟨⟨S, F, ?_⟩, hD, fun y hy => (hD2 y hy).imp id (·.1)⟩⟩
  · rw [hkeys]; exact hm.fr F (by intro hy; rcases hS _ hy with hh | hh | hh; exact rb hh; exact rf hh; exact rq hh)
  · refine hfs.set hi hn hfb F ?_ hD ok hq
    intro y hy
    rcases hS y hy with hh | hh | hh
    · subst hh; right; right; exact fun j hj => ⟨hb0.ne (hfs.ok j hj).blk (by decide), hb0.notin (hfs.ok j hj).own (by decide)⟩
    · exact .inl hh
    · exact .inr (.inl hh)
  · intro y hy
    rcases hD2 y hy with hh | hh
    · have := hlt y hh; omega
    · exact hh.2
  · intro y hy
    rcases hS y hy with hh | hh | hh
    · subst hh; exact hDb
    · subst hh; exact ok0.reg.1
    · exact ok0.reg.2 y hh

def synF (o : Option FV) : FV := match o with | none => ([], 0) | some v => (v.1, v.1.length)
def syncA (A : List (ByteArray × FV)) (dead : Bool) (n : ByteArray) : Int × List (ByteArray × FV) :=
  if dead = true then (9, A) else match kget A n with | none => (4, A) | some _ => (0, kups A n synF)

theorem sync13 (h : Dk w D b A fuse dead) (n : ByteArray) : ∃ w', callF Try.prog 13 #[.pointer (some ⟨b, 0, none⟩), .string n] w = some (.int .i64 (syncA A dead n).1, w') ∧ Dk w' D b (syncA A dead n).2 fuse dead ∧ Chg D w w' D := by
  have h90 : ((9 : Int) == 0) = false := by decide
  have h40 : ((4 : Int) == 0) = false := by decide
  have h00 : ((0 : Int) == 0) = true := by decide
  cases dead with
  | true =>
    refine ⟨w, g13_call ?_, h, Chg.refl _ _⟩
    have e := find26_dead h n
    have : (syncA A true n) = (9, A) := by unfold syncA; rw [if_pos rfl]
    rw [this]
    unfold g13
    simp only [e, h90, obs, asP_pointer, asB_bool, asI_int, asS_string, asSl_slice, asM_map, asTup0, asTup1, asTup2, asTup3, asTup4, asTup5, asTup6, asTup7, asTup8, asTup9, asAgg2, asAgg3, asAgg4, asAgg5, asAgg6, asAgg7, asAgg8, asAgg9, asAgg12, getD0, getD1, getD2, getD3, getD4, getD5, getD6, getD7, getD8, getD9, getD10, getD11, getD12, getD13, getD14, getD15, getD16, getD17, getD18, getD19, Bool.not_true, Bool.not_false, Bool.false_eq_true, Bool.true_eq_false, ↓reduceIte, decide_true, decide_false, Option.isNone_some, Option.isNone_none, Option.isSome_some, Option.isSome_none, beq_self_eq_true, bne_self_eq_false, Bool.and_true, Bool.true_and, Bool.and_false, Bool.false_and, not_true_eq_false, not_false_eq_true]
  | false =>
    obtain ⟨r, fs, h1, h2, h3, h4, h5, hc⟩ := find26 h n
    rcases hc with ⟨i, hi, k1, e, k3, k4, _, _⟩ | ⟨k1, e⟩
    · have hs : syncA A false n = (0, kups A n synF) := by unfold syncA; rw [if_neg (by decide), k3]
      have ok := h4.ok i hi
      have hol := ok.own.len
      simp only [List.length_map, Nat.mul_one] at hol
      have c0 : w.cell? ⟨fs[i].fb, 0, none⟩ = some (.slice fs[i].q.1 fs[i].q.2.1 fs[i].q.2.2) := ok.blk.cell 0
      have t1 : st1 w ⟨fs[i].fb, 1, none⟩ (.int .i64 (fs[i].q.2.1 : Int)) = some (w.setCell ⟨fs[i].fb, 1, none⟩ (.int .i64 (fs[i].q.2.1 : Int))) := ok.blk.st1 (by simp) rfl
      have f1 : Fr [fs[i].fb] w (w.setCell ⟨fs[i].fb, 1, none⟩ (.int .i64 (fs[i].q.2.1 : Int))) := Fr.setCell
      have k := ok.blk.set 1 (.int .i64 (fs[i].q.2.1 : Int))
      simp only [List.set_cons_succ, List.set_cons_zero] at k
      have hus := used_set hi fs[i].data fs[i].data.length fs[i].name
      have hb' := h2.fr f1 (by simpa using h2.ne ok.blk (by decide))
      subst h1
      obtain ⟨d, c⟩ := dk_put (f := ⟨fs[i].name, fs[i].fb, fs[i].q, fs[i].data, fs[i].data.length⟩) hi rfl rfl h2 h3 h4 h5 h.db h.lt f1 (by intro y hy; simp at hy; exact .inr (.inl hy)) (fun _ => id) (fun y hy => .inl hy) (fuse' := fuse) (dead' := false)
        (by
          have : ((used ((fs.map FE.ab).set i (FE.ab ⟨fs[i].name, fs[i].fb, fs[i].q, fs[i].data, fs[i].data.length⟩)) : Nat) : Int) = ((used (fs.map FE.ab) : Nat) : Int) := by
            simp only [FE.ab] at hus ⊢; omega
          rw [this]; exact hb')
        ⟨by show Blk _ _ [.slice fs[i].q.1 fs[i].q.2.1 fs[i].q.2.2, .int .i64 (fs[i].data.length : Int)] 63; rw [hol]; exact k, ok.own.fr f1 (by intro y hy hm; simp at hm; subst hm; exact ok.apart ok hy), ok.zs, Nat.le_refl _, ok.reg⟩
        (fun y hy => .inl hy) h.fuse (by have := h.used; simp only [FE.ab] at hus ⊢; omega) (by have := h.len; simpa using this)
      have hset : kups (fs.map FE.ab) n synF = (fs.map FE.ab).set i (FE.ab ⟨fs[i].name, fs[i].fb, fs[i].q, fs[i].data, fs[i].data.length⟩) := by rw [k4, k1]; rfl
      rw [hs]
      refine ⟨_, g13_call ?_, by rw [hset]; exact d, c⟩
      unfold g13
      simp only [e, h00, c0, addr_add, Nat.zero_add, t1, obs, asP_pointer, asB_bool, asI_int, asS_string, asSl_slice, asM_map, asTup0, asTup1, asTup2, asTup3, asTup4, asTup5, asTup6, asTup7, asTup8, asTup9, asAgg2, asAgg3, asAgg4, asAgg5, asAgg6, asAgg7, asAgg8, asAgg9, asAgg12, getD0, getD1, getD2, getD3, getD4, getD5, getD6, getD7, getD8, getD9, getD10, getD11, getD12, getD13, getD14, getD15, getD16, getD17, getD18, getD19, Bool.not_true, Bool.not_false, Bool.false_eq_true, Bool.true_eq_false, ↓reduceIte, decide_true, decide_false, Option.isNone_some, Option.isNone_none, Option.isSome_some, Option.isSome_none, beq_self_eq_true, bne_self_eq_false, Bool.and_true, Bool.true_and, Bool.and_false, Bool.false_and, not_true_eq_false, not_false_eq_true]
    · have hs : syncA A false n = (4, A) := by unfold syncA; rw [if_neg (by decide), k1]
      rw [hs]
      refine ⟨w, g13_call ?_, h, Chg.refl _ _⟩
      unfold g13
      simp only [e, h40, obs, asP_pointer, asB_bool, asI_int, asS_string, asSl_slice, asM_map, asTup0, asTup1, asTup2, asTup3, asTup4, asTup5, asTup6, asTup7, asTup8, asTup9, asAgg2, asAgg3, asAgg4, asAgg5, asAgg6, asAgg7, asAgg8, asAgg9, asAgg12, getD0, getD1, getD2, getD3, getD4, getD5, getD6, getD7, getD8, getD9, getD10, getD11, getD12, getD13, getD14, getD15, getD16, getD17, getD18, getD19, Bool.not_true, Bool.not_false, Bool.false_eq_true, Bool.true_eq_false, ↓reduceIte, decide_true, decide_false, Option.isNone_some, Option.isNone_none, Option.isSome_some, Option.isSome_none, beq_self_eq_true, bne_self_eq_false, Bool.and_true, Bool.true_and, Bool.and_false, Bool.false_and, not_true_eq_false, not_false_eq_true]

def readA (A : List (ByteArray × FV)) (dead : Bool) (n : ByteArray) : List Int × Int :=
  if dead = true then ([], 9) else match kget A n with | none => ([], 4) | some v => (v.1, 0)

theorem read15 (h : Dk w D b A fuse dead) (n : ByteArray) : ∃ q w', callF Try.prog 15 #[.pointer (some ⟨b, 0, none⟩), .string n] w = some (.tuple #[.slice q.1 q.2.1 q.2.2, .int .i64 (readA A dead n).2], w') ∧
    Own w' 5 1 q ((readA A dead n).1.map (Value.int .u8)) ∧ Fr [] w w' ∧ (∀ y ∈ blkOf q, w.heap.size ≤ y) ∧ Zs (readA A dead n).1 ∧ (readA A dead n).1.length ≤ 4194304 := by
  have h90 : ((9 : Int) != 0) = true := by decide
  have h40 : ((4 : Int) != 0) = true := by decide
  have h00 : ((0 : Int) != 0) = false := by decide
  have zn : Zs [] := by intro z hz; simp at hz
  cases dead with
  | true =>
    have e := find26_dead h n
    have : (readA A true n) = ([], 9) := by unfold readA; rw [if_pos rfl]
    rw [this]
    refine ⟨(none, 0, 0), w, g15_call ?_, Own.nil _ _ _, Fr.refl _ _, by simp [blkOf], zn, by simp⟩
    unfold g15
    simp only [e, h90, obs, asP_pointer, asB_bool, asI_int, asS_string, asSl_slice, asM_map, asTup0, asTup1, asTup2, asTup3, asTup4, asTup5, asTup6, asTup7, asTup8, asTup9, asAgg2, asAgg3, asAgg4, asAgg5, asAgg6, asAgg7, asAgg8, asAgg9, asAgg12, getD0, getD1, getD2, getD3, getD4, getD5, getD6, getD7, getD8, getD9, getD10, getD11, getD12, getD13, getD14, getD15, getD16, getD17, getD18, getD19, Bool.not_true, Bool.not_false, Bool.false_eq_true, Bool.true_eq_false, ↓reduceIte, decide_true, decide_false, Option.isNone_some, Option.isNone_none, Option.isSome_some, Option.isSome_none, beq_self_eq_true, bne_self_eq_false, Bool.and_true, Bool.true_and, Bool.and_false, Bool.false_and, not_true_eq_false, not_false_eq_true]
  | false =>
    obtain ⟨r, fs, h1, h2, h3, h4, h5, hc⟩ := find26 h n
    rcases hc with ⟨i, hi, k1, e, k3, k4, _, _⟩ | ⟨k1, e⟩
    · have hs : readA A false n = (fs[i].data, 0) := by unfold readA; rw [if_neg (by decide), k3]
      have ok := h4.ok i hi
      have hug := used_get hi
      have hus := h.used
      subst h1
      have hol := ok.own.len
      simp only [List.length_map, Nat.mul_one] at hol
      have hml : maxLen = 9223372036854775807 := by decide
      have c0 : w.cell? ⟨fs[i].fb, 0, none⟩ = some (.slice fs[i].q.1 fs[i].q.2.1 fs[i].q.2.2) := ok.blk.cell 0
      obtain ⟨q, w1, e1, o1, f1, hq, _⟩ := app_nil t28 ok.own.slC oc8 (by omega) (by omega) 28 #[true, false]
      rw [hs]
      refine ⟨q, w1, g15_call ?_, o1, f1, hq, ok.zs, by show fs[i].data.length ≤ 4194304; omega⟩
      unfold g15
      simp only [e, h00, c0, e1, obs, asP_pointer, asB_bool, asI_int, asS_string, asSl_slice, asM_map, asTup0, asTup1, asTup2, asTup3, asTup4, asTup5, asTup6, asTup7, asTup8, asTup9, asAgg2, asAgg3, asAgg4, asAgg5, asAgg6, asAgg7, asAgg8, asAgg9, asAgg12, getD0, getD1, getD2, getD3, getD4, getD5, getD6, getD7, getD8, getD9, getD10, getD11, getD12, getD13, getD14, getD15, getD16, getD17, getD18, getD19, Bool.not_true, Bool.not_false, Bool.false_eq_true, Bool.true_eq_false, ↓reduceIte, decide_true, decide_false, Option.isNone_some, Option.isNone_none, Option.isSome_some, Option.isSome_none, beq_self_eq_true, bne_self_eq_false, Bool.and_true, Bool.true_and, Bool.and_false, Bool.false_and, not_true_eq_false, not_false_eq_true]
    · have hs : readA A false n = ([], 4) := by unfold readA; rw [if_neg (by decide), k1]
      rw [hs]
      refine ⟨(none, 0, 0), w, g15_call ?_, Own.nil _ _ _, Fr.refl _ _, by simp [blkOf], zn, by simp⟩
      unfold g15
      simp only [e, h40, obs, asP_pointer, asB_bool, asI_int, asS_string, asSl_slice, asM_map, asTup0, asTup1, asTup2, asTup3, asTup4, asTup5, asTup6, asTup7, asTup8, asTup9, asAgg2, asAgg3, asAgg4, asAgg5, asAgg6, asAgg7, asAgg8, asAgg9, asAgg12, getD0, getD1, getD2, getD3, getD4, getD5, getD6, getD7, getD8, getD9, getD10, getD11, getD12, getD13, getD14, getD15, getD16, getD17, getD18, getD19, Bool.not_true, Bool.not_false, Bool.false_eq_true, Bool.true_eq_false, ↓reduceIte, decide_true, decide_false, Option.isNone_some, Option.isNone_none, Option.isSome_some, Option.isSome_none, beq_self_eq_true, bne_self_eq_false, Bool.and_true, Bool.true_and, Bool.and_false, Bool.false_and, not_true_eq_false, not_false_eq_true]

def sizeA (A : List (ByteArray × FV)) (dead : Bool) (n : ByteArray) : Nat × Nat × Int :=
  if dead = true then (0, 0, 9) else match kget A n with | none => (0, 0, 4) | some v => (v.1.length, v.2, 0)

theorem size17 (h : Dk w D b A fuse dead) (n : ByteArray) : ∃ w', callF Try.prog 17 #[.pointer (some ⟨b, 0, none⟩), .string n] w = some (.tuple #[.int .i64 ((sizeA A dead n).1 : Int), .int .i64 ((sizeA A dead n).2.1 : Int), .int .i64 (sizeA A dead n).2.2], w') ∧ Fr [] w w' := by
  have h90 : ((9 : Int) != 0) = true := by decide
  have h40 : ((4 : Int) != 0) = true := by decide
  have h00 : ((0 : Int) != 0) = false := by decide
  cases dead with
  | true =>
    have e := find26_dead h n
    have : (sizeA A true n) = (0, 0, 9) := by unfold sizeA; rw [if_pos rfl]
    rw [this]
    refine ⟨w, g17_call ?_, Fr.refl _ _⟩
    unfold g17
    simp only [e, h90, obs, asP_pointer, asB_bool, asI_int, asS_string, asSl_slice, asM_map, asTup0, asTup1, asTup2, asTup3, asTup4, asTup5, asTup6, asTup7, asTup8, asTup9, asAgg2, asAgg3, asAgg4, asAgg5, asAgg6, asAgg7, asAgg8, asAgg9, asAgg12, getD0, getD1, getD2, getD3, getD4, getD5, getD6, getD7, getD8, getD9, getD10, getD11, getD12, getD13, getD14, getD15, getD16, getD17, getD18, getD19, Bool.not_true, Bool.not_false, Bool.false_eq_true, Bool.true_eq_false, ↓reduceIte, decide_true, decide_false, Option.isNone_some, Option.isNone_none, Option.isSome_some, Option.isSome_none, beq_self_eq_true, bne_self_eq_false, Bool.and_true, Bool.true_and, Bool.and_false, Bool.false_and, not_true_eq_false, not_false_eq_true]
    all_goals rfl
  | false =>
    obtain ⟨r, fs, h1, h2, h3, h4, h5, hc⟩ := find26 h n
    rcases hc with ⟨i, hi, k1, e, k3, k4, _, _⟩ | ⟨k1, e⟩
    · have hs : sizeA A false n = (fs[i].data.length, fs[i].syn, 0) := by unfold sizeA; rw [if_neg (by decide), k3]
      have ok := h4.ok i hi
      have hol := ok.own.len
      simp only [List.length_map, Nat.mul_one] at hol
      have c0 : w.drew.cell? ⟨fs[i].fb, 0, none⟩ = some (.slice fs[i].q.1 fs[i].q.2.1 fs[i].q.2.2) := ok.blk.drew.cell 0
      have c1 : w.drew.cell? ⟨fs[i].fb, 1, none⟩ = some (.int .i64 (fs[i].syn : Int)) := ok.blk.drew.cell 1
      rw [hs]
      refine ⟨w.drew, g17_call ?_, Fr.drew _ _⟩
      unfold g17
      rw [hol]
      simp only [e, h00, c0, addr_add, Nat.zero_add, c1, obs, asP_pointer, asB_bool, asI_int, asS_string, asSl_slice, asM_map, asTup0, asTup1, asTup2, asTup3, asTup4, asTup5, asTup6, asTup7, asTup8, asTup9, asAgg2, asAgg3, asAgg4, asAgg5, asAgg6, asAgg7, asAgg8, asAgg9, asAgg12, getD0, getD1, getD2, getD3, getD4, getD5, getD6, getD7, getD8, getD9, getD10, getD11, getD12, getD13, getD14, getD15, getD16, getD17, getD18, getD19, Bool.not_true, Bool.not_false, Bool.false_eq_true, Bool.true_eq_false, ↓reduceIte, decide_true, decide_false, Option.isNone_some, Option.isNone_none, Option.isSome_some, Option.isSome_none, beq_self_eq_true, bne_self_eq_false, Bool.and_true, Bool.true_and, Bool.and_false, Bool.false_and, not_true_eq_false, not_false_eq_true]
    · have hs : sizeA A false n = (0, 0, 4) := by unfold sizeA; rw [if_neg (by decide), k1]
      rw [hs]
      refine ⟨w, g17_call ?_, Fr.refl _ _⟩
      unfold g17
      simp only [e, h40, obs, asP_pointer, asB_bool, asI_int, asS_string, asSl_slice, asM_map, asTup0, asTup1, asTup2, asTup3, asTup4, asTup5, asTup6, asTup7, asTup8, asTup9, asAgg2, asAgg3, asAgg4, asAgg5, asAgg6, asAgg7, asAgg8, asAgg9, asAgg12, getD0, getD1, getD2, getD3, getD4, getD5, getD6, getD7, getD8, getD9, getD10, getD11, getD12, getD13, getD14, getD15, getD16, getD17, getD18, getD19, Bool.not_true, Bool.not_false, Bool.false_eq_true, Bool.true_eq_false, ↓reduceIte, decide_true, decide_false, Option.isNone_some, Option.isNone_none, Option.isSome_some, Option.isSome_none, beq_self_eq_true, bne_self_eq_false, Bool.and_true, Bool.true_and, Bool.and_false, Bool.false_and, not_true_eq_false, not_false_eq_true]
      all_goals rfl

def cutF (n : Nat) (o : Option FV) : FV := match o with | none => ([], 0) | some v => (v.1.take n, min v.2 n)
def cutA (A : List (ByteArray × FV)) (dead : Bool) (nm : ByteArray) (n : Int) : Int × List (ByteArray × FV) :=
  if dead = true then (9, A) else match kget A nm with | none => (4, A) | some v => if n < 0 ∨ n > v.1.length then (1, A) else (0, kups A nm (cutF n.toNat))

theorem cut23 (h : Dk w D b A fuse dead) (nm : ByteArray) (n : Int) : ∃ w', callF Try.prog 23 #[.pointer (some ⟨b, 0, none⟩), .string nm, .int .i64 n] w = some (.int .i64 (cutA A dead nm n).1, w') ∧ Dk w' D b (cutA A dead nm n).2 fuse dead ∧ Chg D w w' D := by
  have h90 : ((9 : Int) != 0) = true := by decide
  have h40 : ((4 : Int) != 0) = true := by decide
  have h00 : ((0 : Int) != 0) = false := by decide
  cases dead with
  | true =>
    have e := find26_dead h nm
    have : (cutA A true nm n) = (9, A) := by unfold cutA; rw [if_pos rfl]
    rw [this]
    refine ⟨w, g23_call ?_, h, Chg.refl _ _⟩
    unfold g23
    simp only [e, h90, obs, asP_pointer, asB_bool, asI_int, asS_string, asSl_slice, asM_map, asTup0, asTup1, asTup2, asTup3, asTup4, asTup5, asTup6, asTup7, asTup8, asTup9, asAgg2, asAgg3, asAgg4, asAgg5, asAgg6, asAgg7, asAgg8, asAgg9, asAgg12, getD0, getD1, getD2, getD3, getD4, getD5, getD6, getD7, getD8, getD9, getD10, getD11, getD12, getD13, getD14, getD15, getD16, getD17, getD18, getD19, Bool.not_true, Bool.not_false, Bool.false_eq_true, Bool.true_eq_false, ↓reduceIte, decide_true, decide_false, Option.isNone_some, Option.isNone_none, Option.isSome_some, Option.isSome_none, beq_self_eq_true, bne_self_eq_false, Bool.and_true, Bool.true_and, Bool.and_false, Bool.false_and, not_true_eq_false, not_false_eq_true]
  | false =>
    obtain ⟨r, fs, h1, h2, h3, h4, h5, hc⟩ := find26 h nm
    rcases hc with ⟨i, hi, k1, e, k3, k4, _, _⟩ | ⟨k1, e⟩
    · have ok := h4.ok i hi
      have hug := used_get hi
      have hus := h.used
      subst h1
      have hol := ok.own.len
      simp only [List.length_map, Nat.mul_one] at hol
      have c0 : w.cell? ⟨fs[i].fb, 0, none⟩ = some (.slice fs[i].q.1 fs[i].q.2.1 fs[i].q.2.2) := ok.blk.cell 0
      by_cases hbad : n < 0 ∨ n > fs[i].data.length
      · have hs : cutA (fs.map FE.ab) false nm n = (1, fs.map FE.ab) := by unfold cutA; rw [if_neg (by decide), k3]; simp only; rw [if_pos hbad]
        rw [hs]
        refine ⟨w, g23_call ?_, h, Chg.refl _ _⟩
        by_cases hn : n < 0
        · unfold g23
          simp only [e, h00, hn, obs, asP_pointer, asB_bool, asI_int, asS_string, asSl_slice, asM_map, asTup0, asTup1, asTup2, asTup3, asTup4, asTup5, asTup6, asTup7, asTup8, asTup9, asAgg2, asAgg3, asAgg4, asAgg5, asAgg6, asAgg7, asAgg8, asAgg9, asAgg12, getD0, getD1, getD2, getD3, getD4, getD5, getD6, getD7, getD8, getD9, getD10, getD11, getD12, getD13, getD14, getD15, getD16, getD17, getD18, getD19, Bool.not_true, Bool.not_false, Bool.false_eq_true, Bool.true_eq_false, ↓reduceIte, decide_true, decide_false, Option.isNone_some, Option.isNone_none, Option.isSome_some, Option.isSome_none, beq_self_eq_true, bne_self_eq_false, Bool.and_true, Bool.true_and, Bool.and_false, Bool.false_and, not_true_eq_false, not_false_eq_true]
        · have hg : n > (fs[i].q.2.1 : Int) := by omega
          unfold g23
          simp only [e, h00, hn, c0, hg, obs, asP_pointer, asB_bool, asI_int, asS_string, asSl_slice, asM_map, asTup0, asTup1, asTup2, asTup3, asTup4, asTup5, asTup6, asTup7, asTup8, asTup9, asAgg2, asAgg3, asAgg4, asAgg5, asAgg6, asAgg7, asAgg8, asAgg9, asAgg12, getD0, getD1, getD2, getD3, getD4, getD5, getD6, getD7, getD8, getD9, getD10, getD11, getD12, getD13, getD14, getD15, getD16, getD17, getD18, getD19, Bool.not_true, Bool.not_false, Bool.false_eq_true, Bool.true_eq_false, ↓reduceIte, decide_true, decide_false, Option.isNone_some, Option.isNone_none, Option.isSome_some, Option.isSome_none, beq_self_eq_true, bne_self_eq_false, Bool.and_true, Bool.true_and, Bool.and_false, Bool.false_and, not_true_eq_false, not_false_eq_true]
      · obtain ⟨m, rfl⟩ := Int.eq_ofNat_of_zero_le (show 0 ≤ n by omega)
        have hm : m ≤ fs[i].data.length := by omega
        have hs : cutA (fs.map FE.ab) false nm (m : Int) = (0, kups (fs.map FE.ab) nm (cutF m)) := by unfold cutA; rw [if_neg (by decide), k3]; simp only; rw [if_neg hbad]; rfl
        have hn : ¬ (m : Int) < 0 := by omega
        have hg : ¬ (m : Int) > (fs[i].q.2.1 : Int) := by omega
        have f0 : Fr [] w w.drew := Fr.drew _ _
        have c3 : w.drew.cell? ⟨b, 3, none⟩ = some (.int .i64 ((used (fs.map FE.ab) : Nat) : Int)) := h2.drew.cell 3
        have c0d : w.drew.cell? ⟨fs[i].fb, 0, none⟩ = some (.slice fs[i].q.1 fs[i].q.2.1 fs[i].q.2.2) := ok.blk.drew.cell 0
        have hw1 : IntKind.i64.wrap ((fs[i].q.2.1 : Int) - (m : Int)) = ((fs[i].q.2.1 - m : Nat) : Int) := by rw [wrap_i64 (by omega) (by omega)]; omega
        have hw2 : IntKind.i64.wrap (((used (fs.map FE.ab) : Nat) : Int) - ((fs[i].q.2.1 - m : Nat) : Int)) = ((used (fs.map FE.ab) - (fs[i].q.2.1 - m) : Nat) : Int) := by rw [wrap_i64 (by omega) (by omega)]; omega
        generalize hU : used (fs.map FE.ab) - (fs[i].q.2.1 - m) = U at hw2
        have t1 : st1 w.drew ⟨b, 3, none⟩ (.int .i64 (U : Int)) = some (w.drew.setCell ⟨b, 3, none⟩ (.int .i64 (U : Int))) := h2.drew.st1 (by simp) rfl
        have f1 : Fr [b] w.drew (w.drew.setCell ⟨b, 3, none⟩ (.int .i64 (U : Int))) := Fr.setCell
        have hb1 := h2.drew.set 3 (.int .i64 (U : Int))
        simp only [List.set_cons_succ, List.set_cons_zero] at hb1
        have nb : b ≠ fs[i].fb := h2.ne ok.blk (by decide)
        have nbq : b ∉ blkOf fs[i].q := h2.notin ok.own (by decide)
        have kk1 := ok.blk.drew.fr f1 (by simpa using nb.symm)
        have o1 := ok.own.drew.fr f1 (by intro y hy hm; simp at hm; subst hm; exact nbq hy)
        generalize w.drew.setCell ⟨b, 3, none⟩ (.int .i64 (U : Int)) = w1 at t1 f1 hb1 kk1 o1
        have d0 : w1.cell? ⟨fs[i].fb, 0, none⟩ = some (.slice fs[i].q.1 fs[i].q.2.1 fs[i].q.2.2) := kk1.cell 0
        have hle := ok.own.le
        have es := slc3 (u := fs[i].q) (j := m) (by omega)
        have t2 : st1 w1 ⟨fs[i].fb, 0, none⟩ (.slice fs[i].q.1 m m) = some (w1.setCell ⟨fs[i].fb, 0, none⟩ (.slice fs[i].q.1 m m)) := kk1.st1 (by simp) rfl
        have f2 : Fr [fs[i].fb] w1 (w1.setCell ⟨fs[i].fb, 0, none⟩ (.slice fs[i].q.1 m m)) := Fr.setCell
        have kk2 := kk1.set 0 (.slice fs[i].q.1 m m)
        simp only [List.set_cons_zero] at kk2
        have hb2 := hb1.fr f2 (by simpa using nb)
        have nf : fs[i].fb ∉ blkOf fs[i].q := ok.apart ok
        have o2 := o1.fr f2 (by intro y hy hm; simp at hm; subst hm; exact nf hy)
        generalize w1.setCell ⟨fs[i].fb, 0, none⟩ (.slice fs[i].q.1 m m) = w2 at t2 f2 kk2 hb2 o2
        have d1 : w2.cell? ⟨fs[i].fb, 1, none⟩ = some (.int .i64 (fs[i].syn : Int)) := kk2.cell 1
        have hmin : (if (m : Int) < (fs[i].syn : Int) then (m : Int) else (fs[i].syn : Int)) = ((min fs[i].syn m : Nat) : Int) := by split <;> omega
        have t3 : st1 w2 ⟨fs[i].fb, 1, none⟩ (.int .i64 ((min fs[i].syn m : Nat) : Int)) = some (w2.setCell ⟨fs[i].fb, 1, none⟩ (.int .i64 ((min fs[i].syn m : Nat) : Int))) := kk2.st1 (by simp) rfl
        have f3 : Fr [fs[i].fb] w2 (w2.setCell ⟨fs[i].fb, 1, none⟩ (.int .i64 ((min fs[i].syn m : Nat) : Int))) := Fr.setCell
        have kk3 := kk2.set 1 (.int .i64 ((min fs[i].syn m : Nat) : Int))
        simp only [List.set_cons_succ, List.set_cons_zero] at kk3
        have hb3 := hb2.fr f3 (by simpa using nb)
        have o3 := o2.fr f3 (by intro y hy hm; simp at hm; subst hm; exact nf hy)
        have o4 := Own.cut o3 (j := m) (by omega)
        rw [← List.map_take] at o4
        have F : Fr [b, fs[i].fb] w (w2.setCell ⟨fs[i].fb, 1, none⟩ (.int .i64 ((min fs[i].syn m : Nat) : Int))) := (Fr.mono (Fr.app (Fr.app (Fr.app f0 f1) f2) f3) (by have z0_ := Fr.size f0; have z1_ := Fr.size f1; have z2_ := Fr.size f2; have z3_ := Fr.size f3; intro y_ hy_ hl_; grind [blkOf]))
        have hus2 := used_set hi (fs[i].data.take m) (min fs[i].syn m) fs[i].name
        rw [List.length_take] at hus2
        have hUu : used ((fs.map FE.ab).set i (fs[i].name, fs[i].data.take m, min fs[i].syn m)) = U := by omega
        obtain ⟨d, c⟩ := dk_put (f := ⟨fs[i].name, fs[i].fb, (fs[i].q.1, m, m), fs[i].data.take m, min fs[i].syn m⟩) hi rfl rfl h2 h3 h4 h5 h.db h.lt F (by intro y hy; simp at hy; rcases hy with hy | hy <;> simp [hy]) (fun _ => id) (fun y hy => .inl hy) (fuse' := fuse) (dead' := false)
          (by simp only [FE.ab]; rw [hUu]; exact hb3)
          ⟨kk3, o4, zs_take ok.zs m, by show min fs[i].syn m ≤ (fs[i].data.take m).length; rw [List.length_take]; have := ok.syn; omega, ok.reg⟩
          (fun y hy => .inl hy) h.fuse (by simp only [FE.ab]; omega) (by have := h.len; simpa using this)
        have hset : kups (fs.map FE.ab) nm (cutF m) = (fs.map FE.ab).set i (FE.ab ⟨fs[i].name, fs[i].fb, (fs[i].q.1, m, m), fs[i].data.take m, min fs[i].syn m⟩) := by rw [k4, k1]; rfl
        rw [hs]
        refine ⟨_, g23_call ?_, by rw [hset]; exact d, c⟩
        unfold g23
        simp only [e, h00, hn, c0, hg, addr_add, Nat.zero_add, c3, c0d, hw1, hw2, t1, d0, es, t2, d1, hmin, t3, obs, asP_pointer, asB_bool, asI_int, asS_string, asSl_slice, asM_map, asTup0, asTup1, asTup2, asTup3, asTup4, asTup5, asTup6, asTup7, asTup8, asTup9, asAgg2, asAgg3, asAgg4, asAgg5, asAgg6, asAgg7, asAgg8, asAgg9, asAgg12, getD0, getD1, getD2, getD3, getD4, getD5, getD6, getD7, getD8, getD9, getD10, getD11, getD12, getD13, getD14, getD15, getD16, getD17, getD18, getD19, Bool.not_true, Bool.not_false, Bool.false_eq_true, Bool.true_eq_false, ↓reduceIte, decide_true, decide_false, Option.isNone_some, Option.isNone_none, Option.isSome_some, Option.isSome_none, beq_self_eq_true, bne_self_eq_false, Bool.and_true, Bool.true_and, Bool.and_false, Bool.false_and, not_true_eq_false, not_false_eq_true]
    · have hs : cutA A false nm n = (4, A) := by unfold cutA; rw [if_neg (by decide), k1]
      rw [hs]
      refine ⟨w, g23_call ?_, h, Chg.refl _ _⟩
      unfold g23
      simp only [e, h40, obs, asP_pointer, asB_bool, asI_int, asS_string, asSl_slice, asM_map, asTup0, asTup1, asTup2, asTup3, asTup4, asTup5, asTup6, asTup7, asTup8, asTup9, asAgg2, asAgg3, asAgg4, asAgg5, asAgg6, asAgg7, asAgg8, asAgg9, asAgg12, getD0, getD1, getD2, getD3, getD4, getD5, getD6, getD7, getD8, getD9, getD10, getD11, getD12, getD13, getD14, getD15, getD16, getD17, getD18, getD19, Bool.not_true, Bool.not_false, Bool.false_eq_true, Bool.true_eq_false, ↓reduceIte, decide_true, decide_false, Option.isNone_some, Option.isNone_none, Option.isSome_some, Option.isSome_none, beq_self_eq_true, bne_self_eq_false, Bool.and_true, Bool.true_and, Bool.and_false, Bool.false_and, not_true_eq_false, not_false_eq_true]
end
end Go.Proofs.Ytkmidlhnlnolnaa
