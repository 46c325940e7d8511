/-
  DiskH: lemmas on what Go functions of this seat come to (for whatever arguments, as each says). No condition but those that stand in each lemma.
-/
import Derived.Test.YtkmidlhnlnolnaaDiskG
namespace Go.Proofs.Ytkmidlhnlnolnaa
open Go Go.Ev
set_option maxRecDepth 100000
set_option linter.unusedVariables false
set_option linter.unusedSimpArgs false

/-- one file takes the place k -/
theorem Fs.place {w w' : World} {D D' : Nat → Prop} {fs : List FE} {S : List Nat} (h : Fs w D fs) {i : Nat} (hi : i < fs.length) {f : FE} (hf : Fr S w w')
    (hS : ∀ y ∈ S, ∀ j (hj : j < fs.length), j ≠ i → y ≠ fs[j].fb ∧ y ∉ blkOf fs[j].q) (hD : ∀ y, D y → D' y) (ok : FeOk w' D' f)
    (apf : ∀ j (hj : j < fs.length), j ≠ i → f.fb ≠ fs[j].fb ∧ f.name ≠ fs[j].name ∧ ∀ y ∈ blkOf f.q, y ∉ blkOf fs[j].q) : Fs w' D' (fs.set i f) := by
  refine ⟨fun j hj => ?_, fun j k hj hk hjk => ?_⟩
  · rw [List.length_set] at hj
    rw [List.getElem_set]
    split
    · exact ok
    · rename_i hne
      exact (h.ok j hj).fr hf (fun hm => (hS _ hm j hj (fun e => hne e.symm)).1 rfl) (fun y hy hm => (hS y hm j hj (fun e => hne e.symm)).2 hy) hD
  · rw [List.length_set] at hj hk
    rw [List.getElem_set, List.getElem_set]
    split
    · rename_i e1
      split
      · rename_i e2; omega
      · rename_i e2; exact apf k hk (fun e => e2 e.symm)
    · rename_i e1
      split
      · rename_i e2
        obtain ⟨a, b, c⟩ := apf j hj (fun e => e1 e.symm)
        exact ⟨a.symm, b.symm, fun y hy hm => c y hm hy⟩
      · exact h.ap j k hj hk hjk

section
variable {w : World} {D : Nat → Prop} {b : Nat} {A : List (ByteArray × FV)} {fuse : Int} {dead : Bool}

def removeA (A : List (ByteArray × FV)) (dead : Bool) (n : ByteArray) : Int × List (ByteArray × FV) :=
  if dead = true then (9, A) else match kget A n with | none => (4, A) | some _ => (0, kdel A n)

theorem del_map {r : Nat} {fs : List FE} (h : MapAt Value.string w r (keysOf fs)) (n : ByteArray) :
    ∃ w', callB Try.prog .delete #[57, 9] 0 #[false, false] #[.map (some r), .string n] w = some (.tuple #[], w') ∧ MapAt Value.string w' r (kdel (keysOf fs) n) ∧ Fr [r] w w' := by
  obtain ⟨w', e, m, f⟩ := callB_delete (P := Try.prog) (T := 57) (t2 := 9) (ty := 0) (cs := #[false, false]) Try.underlying57 Try.underlying9 rfl keyOk_str h n
  rw [delA_kdel] at m
  exact ⟨w', e, m, f⟩

theorem remove24 (h : Dk w D b A fuse dead) (n : ByteArray) : ∃ w', callF Try.prog 24 #[.pointer (some ⟨b, 0, none⟩), .string n] w = some (.int .i64 (removeA A dead n).1, w') ∧ Dk w' D b (removeA A dead n).2 fuse dead ∧ Chg D w w' D := by
  have h90 : ((9 : Int) == 0) = false := by decide
  have h40 : ((4 : Int) == 0) = false := by decide
  have h00 : ((0 : Int) == 0) = true := by decide
  cases dead with
  | true =>
    have e := find26_dead h n
    have : (removeA A true n) = (9, A) := by unfold removeA; rw [if_pos rfl]
    rw [this]
    refine ⟨w, g24_call ?_, h, Chg.refl _ _⟩
    unfold g24
    simp only [e, h90, obs, asP_pointer, asB_bool, asI_int, asS_string, asSl_slice, asM_map, asTup0, asTup1, asTup2, asTup3, asTup4, asTup5, asTup6, asTup7, asTup8, asTup9, asAgg2, asAgg3, asAgg4, asAgg5, asAgg6, asAgg7, asAgg8, asAgg9, asAgg12, getD0, getD1, getD2, getD3, getD4, getD5, getD6, getD7, getD8, getD9, getD10, getD11, getD12, getD13, getD14, getD15, getD16, getD17, getD18, getD19, Bool.not_true, Bool.not_false, Bool.false_eq_true, Bool.true_eq_false, ↓reduceIte, decide_true, decide_false, Option.isNone_some, Option.isNone_none, Option.isSome_some, Option.isSome_none, beq_self_eq_true, bne_self_eq_false, Bool.and_true, Bool.true_and, Bool.and_false, Bool.false_and, not_true_eq_false, not_false_eq_true]
  | false =>
    obtain ⟨r, fs, h1, h2, h3, h4, h5, hc⟩ := find26 h n
    rcases hc with ⟨i, hi, k1, e, k3, k4, k5, k6⟩ | ⟨k1, e⟩
    · have hs : removeA A false n = (0, kdel A n) := by unfold removeA; rw [if_neg (by decide), k3]
      have ok := h4.ok i hi
      have hug := used_get hi
      have hus := h.used
      have hue := used_erase hi
      subst h1
      have hol := ok.own.len
      simp only [List.length_map, Nat.mul_one] at hol
      have f0 : Fr [] w w.drew := Fr.drew _ _
      have c3 : w.drew.cell? ⟨b, 3, none⟩ = some (.int .i64 ((used (fs.map FE.ab) : Nat) : Int)) := h2.drew.cell 3
      have c0d : w.drew.cell? ⟨fs[i].fb, 0, none⟩ = some (.slice fs[i].q.1 fs[i].q.2.1 fs[i].q.2.2) := ok.blk.drew.cell 0
      have hw2 : IntKind.i64.wrap (((used (fs.map FE.ab) : Nat) : Int) - (fs[i].q.2.1 : Int)) = ((used ((fs.eraseIdx i).map FE.ab) : Nat) : Int) := by rw [wrap_i64 (by omega) (by omega)]; omega
      generalize hU : used ((fs.eraseIdx i).map FE.ab) = U at hw2 hue
      have t1 : st1 w.drew ⟨b, 3, none⟩ (.int .i64 (U : Int)) = some (w.drew.setCell ⟨b, 3, none⟩ (.int .i64 (U : Int))) := h2.drew.st1 (by simp) rfl
      have f1 : Fr [b] w.drew (w.drew.setCell ⟨b, 3, none⟩ (.int .i64 (U : Int))) := Fr.setCell
      have hb1 := h2.drew.set 3 (.int .i64 (U : Int))
      simp only [List.set_cons_succ, List.set_cons_zero] at hb1
      have rb : r ≠ b := h3.ne_blk h2
      have m1 := h3.drew.fr f1 (by simpa using rb)
      generalize w.drew.setCell ⟨b, 3, none⟩ (.int .i64 (U : Int)) = w1 at t1 f1 hb1 m1
      have d0 : w1.cell? ⟨b, 0, none⟩ = some (.map (some r)) := hb1.cell 0
      obtain ⟨w2, e2, m2, f2⟩ := del_map m1 n
      rw [k5] at m2
      have hb2 := hb1.fr f2 (by simpa using rb.symm)
      have F : Fr [b, r] w w2 := (Fr.mono (Fr.app (Fr.app f0 f1) f2) (by have z0_ := Fr.size f0; have z1_ := Fr.size f1; have z2_ := Fr.size f2; intro y_ hy_ hl_; grind [blkOf]))
      have hfs2 : Fs w2 D fs := h4.fr F (by
        intro y hy j hj
        simp at hy
        rcases hy with hy | hy
        · subst hy; exact ⟨h2.ne (h4.ok j hj).blk (by decide), h2.notin (h4.ok j hj).own (by decide)⟩
        · subst hy; exact ⟨h3.ne_blk (h4.ok j hj).blk, h3.notin (h4.ok j hj).own⟩) (fun _ => id)
      rw [hs]
      refine ⟨w2, g24_call ?_, ⟨⟨r, fs.eraseIdx i, k6, ?_, m2, hfs2.erase i, h5⟩, h.db, ?_, h.fuse, ?_, ?_⟩, Chg.of_fr F ?_⟩
      · unfold g24
        simp only [e, h00, addr_add, Nat.zero_add, c3, c0d, hw2, t1, d0, e2, obs, asP_pointer, asB_bool, asI_int, asS_string, asSl_slice, asM_map, asTup0, asTup1, asTup2, asTup3, asTup4, asTup5, asTup6, asTup7, asTup8, asTup9, asAgg2, asAgg3, asAgg4, asAgg5, asAgg6, asAgg7, asAgg8, asAgg9, asAgg12, getD0, getD1, getD2, getD3, getD4, getD5, getD6, getD7, getD8, getD9, getD10, getD11, getD12, getD13, getD14, getD15, getD16, getD17, getD18, getD19, Bool.not_true, Bool.not_false, Bool.false_eq_true, Bool.true_eq_false, ↓reduceIte, decide_true, decide_false, Option.isNone_some, Option.isNone_none, Option.isSome_some, Option.isSome_none, beq_self_eq_true, bne_self_eq_false, Bool.and_true, Bool.true_and, Bool.and_false, Bool.false_and, not_true_eq_false, not_false_eq_true]
      · show Blk w2 b [.map (some r), .int .i64 fuse, .bool false, .int .i64 ((used (kdel (fs.map FE.ab) n) : Nat) : Int)] 59
        rw [k6, hU]; exact hb2
      · intro y hy; have := h.lt y hy; have := F.size; omega
      · show used (kdel (fs.map FE.ab) n) ≤ 4194304
        rw [k6, hU]; omega
      · show (kdel (fs.map FE.ab) n).length ≤ 4096
        have := (kdel_sub (fs.map FE.ab) n).length_le; have := h.len; omega
      · intro y hy _; simp at hy; rcases hy with hy | hy <;> subst hy
        · exact h.db
        · exact h5
    · have hs : removeA A false n = (4, A) := by unfold removeA; rw [if_neg (by decide), k1]
      rw [hs]
      refine ⟨w, g24_call ?_, h, Chg.refl _ _⟩
      unfold g24
      simp only [e, h40, obs, asP_pointer, asB_bool, asI_int, asS_string, asSl_slice, asM_map, asTup0, asTup1, asTup2, asTup3, asTup4, asTup5, asTup6, asTup7, asTup8, asTup9, asAgg2, asAgg3, asAgg4, asAgg5, asAgg6, asAgg7, asAgg8, asAgg9, asAgg12, getD0, getD1, getD2, getD3, getD4, getD5, getD6, getD7, getD8, getD9, getD10, getD11, getD12, getD13, getD14, getD15, getD16, getD17, getD18, getD19, Bool.not_true, Bool.not_false, Bool.false_eq_true, Bool.true_eq_false, ↓reduceIte, decide_true, decide_false, Option.isNone_some, Option.isNone_none, Option.isSome_some, Option.isSome_none, beq_self_eq_true, bne_self_eq_false, Bool.and_true, Bool.true_and, Bool.and_false, Bool.false_and, not_true_eq_false, not_false_eq_true]

def armA (fuse : Int) (dead : Bool) (n : Int) : Int := if dead = true then fuse else if n < -1 then -1 else n

theorem arm11 (h : Dk w D b A fuse dead) {n : Int} (hn : n ≤ 9223372036854775807) : ∃ w', callF Try.prog 11 #[.pointer (some ⟨b, 0, none⟩), .int .i64 n] w = some (.tuple #[], w') ∧ Dk w' D b A (armA fuse dead n) dead ∧ Chg D w w' D := by
  obtain ⟨r, fs, h1, h2, h3, h4, h5⟩ := h.ex
  have c2 : w.cell? ⟨b, 2, none⟩ = some (.bool dead) := h2.cell 2
  cases dead with
  | true =>
    have ha : armA fuse true n = fuse := by unfold armA; rw [if_pos rfl]
    rw [ha]
    refine ⟨w, g11_call ?_, h, Chg.refl _ _⟩
    unfold g11
    simp only [addr_add, Nat.zero_add, c2, obs, asP_pointer, asB_bool, asI_int, asS_string, asSl_slice, asM_map, asTup0, asTup1, asTup2, asTup3, asTup4, asTup5, asTup6, asTup7, asTup8, asTup9, asAgg2, asAgg3, asAgg4, asAgg5, asAgg6, asAgg7, asAgg8, asAgg9, asAgg12, getD0, getD1, getD2, getD3, getD4, getD5, getD6, getD7, getD8, getD9, getD10, getD11, getD12, getD13, getD14, getD15, getD16, getD17, getD18, getD19, Bool.not_true, Bool.not_false, Bool.false_eq_true, Bool.true_eq_false, ↓reduceIte, decide_true, decide_false, Option.isNone_some, Option.isNone_none, Option.isSome_some, Option.isSome_none, beq_self_eq_true, bne_self_eq_false, Bool.and_true, Bool.true_and, Bool.and_false, Bool.false_and, not_true_eq_false, not_false_eq_true]
  | false =>
    have ha : (if (-1 : Int) > n then -1 else n) = armA fuse false n := by unfold armA; simp only [Bool.false_eq_true, if_false]
    have hr : -1 ≤ armA fuse false n ∧ armA fuse false n ≤ 9223372036854775807 := by rw [← ha]; split <;> omega
    generalize armA fuse false n = v at ha hr
    have t1 : st1 w ⟨b, 1, none⟩ (.int .i64 v) = some (w.setCell ⟨b, 1, none⟩ (.int .i64 v)) := h2.st1 (by simp) rfl
    have f1 : Fr [b] w (w.setCell ⟨b, 1, none⟩ (.int .i64 v)) := Fr.setCell
    have hb1 := h2.set 1 (.int .i64 v)
    simp only [List.set_cons_succ, List.set_cons_zero] at hb1
    have rb : r ≠ b := h3.ne_blk h2
    refine ⟨_, g11_call ?_, ⟨⟨r, fs, h1, hb1, h3.fr f1 (by simpa using rb), h4.fr f1 (by intro y hy j hj; simp at hy; subst hy; exact ⟨h2.ne (h4.ok j hj).blk (by decide), h2.notin (h4.ok j hj).own (by decide)⟩) (fun _ => id), h5⟩, h.db, ?_, hr, h.used, h.len⟩, Chg.of_fr f1 (by intro y hy _; simp at hy; subst hy; exact h.db)⟩
    · unfold g11
      simp only [addr_add, Nat.zero_add, c2, ha, t1, obs, asP_pointer, asB_bool, asI_int, asS_string, asSl_slice, asM_map, asTup0, asTup1, asTup2, asTup3, asTup4, asTup5, asTup6, asTup7, asTup8, asTup9, asAgg2, asAgg3, asAgg4, asAgg5, asAgg6, asAgg7, asAgg8, asAgg9, asAgg12, getD0, getD1, getD2, getD3, getD4, getD5, getD6, getD7, getD8, getD9, getD10, getD11, getD12, getD13, getD14, getD15, getD16, getD17, getD18, getD19, Bool.not_true, Bool.not_false, Bool.false_eq_true, Bool.true_eq_false, ↓reduceIte, decide_true, decide_false, Option.isNone_some, Option.isNone_none, Option.isSome_some, Option.isSome_none, beq_self_eq_true, bne_self_eq_false, Bool.and_true, Bool.true_and, Bool.and_false, Bool.false_and, not_true_eq_false, not_false_eq_true]
    · intro y hy; have := h.lt y hy; have := f1.size; omega

theorem dead12 (h : Dk w D b A fuse dead) : callF Try.prog 12 #[.pointer (some ⟨b, 0, none⟩)] w = some (.bool dead, w) := by
  obtain ⟨r, fs, h1, h2, h3, h4, h5⟩ := h.ex
  have c2 : w.cell? ⟨b, 2, none⟩ = some (.bool dead) := h2.cell 2
  refine g12_call ?_
  unfold g12
  simp only [addr_add, Nat.zero_add, c2, obs, asP_pointer, asB_bool, asI_int, asS_string, asSl_slice, asM_map, asTup0, asTup1, asTup2, asTup3, asTup4, asTup5, asTup6, asTup7, asTup8, asTup9, asAgg2, asAgg3, asAgg4, asAgg5, asAgg6, asAgg7, asAgg8, asAgg9, asAgg12, getD0, getD1, getD2, getD3, getD4, getD5, getD6, getD7, getD8, getD9, getD10, getD11, getD12, getD13, getD14, getD15, getD16, getD17, getD18, getD19, Bool.not_true, Bool.not_false, Bool.false_eq_true, Bool.true_eq_false, ↓reduceIte, decide_true, decide_false, Option.isNone_some, Option.isNone_none, Option.isSome_some, Option.isSome_none, beq_self_eq_true, bne_self_eq_false, Bool.and_true, Bool.true_and, Bool.and_false, Bool.false_and, not_true_eq_false, not_false_eq_true]

def renF (v : FV) (_ : Option FV) : FV := (v.1, v.1.length)
def renameA (A : List (ByteArray × FV)) (dead : Bool) (n t : ByteArray) : Int × List (ByteArray × FV) :=
  if dead = true then (9, A) else match kget A n with
  | none => (4, A)
  | some v => if t.size = 0 ∨ t.size > 24 then (1, A) else if n = t then (0, A) else (0, kups (kdel A n) t (renF v))

/-- insA at a place -/
theorem insA_kups {K : Type} [DecidableEq K] (l : List (K × Value)) (k : K) (v : Value) : insA l k v = kups l k (fun _ => v) := by
  induction l with
  | nil => rfl
  | cons e l ih => simp only [insA, kups, ih]

/-- the last part of Rename: the name goes, the other one comes -/
theorem tail6 {r : Nat} {fs : List FE} {U : Nat} (hb : Blk w b [.map (some r), .int .i64 fuse, .bool false, .int .i64 (U : Int)] 59) (hm : MapAt Value.string w r (keysOf fs)) (hfs : Fs w D fs) (hDr : D r) (hDb : D b)
    (hlt : ∀ y, D y → y < w.heap.size) (hfuse : -1 ≤ fuse ∧ fuse ≤ 9223372036854775807) (hlen : fs.length ≤ 4096) {i : Nat} (hi : i < fs.length) {n t : ByteArray} (hn : fs[i].name = n) (hnt : n ≠ t)
    (hU : U = used (kups (kdel (fs.map FE.ab) n) t (renF (fs[i].data, fs[i].syn)))) (hUl : U ≤ 4194304) :
    ∃ w', g19_j6 (some ⟨b, 0, none⟩) n t (some ⟨fs[i].fb, 0, none⟩) w = some (.int .i64 0, w') ∧ Dk w' D b (kups (kdel (fs.map FE.ab) n) t (renF (fs[i].data, fs[i].syn))) fuse false ∧ Chg D w w' D := by
  have ok := hfs.ok i hi
  have hol := ok.own.len
  simp only [List.length_map, Nat.mul_one] at hol
  have rb : r ≠ b := hm.ne_blk hb
  have rf : r ≠ fs[i].fb := hm.ne_blk ok.blk
  have nb : b ≠ fs[i].fb := hb.ne ok.blk (by decide)
  have nf : fs[i].fb ∉ blkOf fs[i].q := ok.apart ok
  have rq : r ∉ blkOf fs[i].q := hm.notin ok.own
  have c0 : w.cell? ⟨b, 0, none⟩ = some (.map (some r)) := hb.cell 0
  obtain ⟨w1, e1, m1, f1⟩ := del_map hm n
  have hk : ∃ hkd : kdel (keysOf fs) n = keysOf (fs.eraseIdx i), kdel (fs.map FE.ab) n = (fs.eraseIdx i).map FE.ab := by
    rcases keysOf_get fs n with ⟨j, hj, k1, k2, k3, k4, k5, k6⟩ | ⟨k1, k2, k3, k4⟩
    · have : j = i := by
        rcases Nat.lt_trichotomy j i with h | h | h
        · exact absurd (k1.trans hn.symm) (hfs.ap j i hj hi (by omega)).2.1
        · exact h
        · exact absurd (k1.trans hn.symm) (hfs.ap j i hj hi (by omega)).2.1
      subst this; exact ⟨k5, k6⟩
    · exact absurd hn (k3 i hi)
  obtain ⟨hk1, hk2⟩ := hk
  rw [hk1] at m1
  have hb1 := hb.fr f1 (by simpa using rb.symm)
  have d0 : w1.cell? ⟨b, 0, none⟩ = some (.map (some r)) := hb1.cell 0
  obtain ⟨w2, e2, m2, f2⟩ := m1.upd keyOk_str t (.pointer (some ⟨fs[i].fb, 0, none⟩))
  rw [insA_kups] at m2
  have hb2 := hb1.fr f2 (by simpa using rb.symm)
  have F2 : Fr [r] w w2 := (Fr.mono (Fr.app f1 f2) (by have z0_ := Fr.size f1; have z1_ := Fr.size f2; intro y_ hy_ hl_; grind [blkOf]))
  have kk := ok.blk.fr F2 (by simpa using rf.symm)
  have oo := ok.own.fr F2 (by intro y hy hm; simp at hm; subst hm; exact rq hy)
  have d1 : w2.cell? ⟨fs[i].fb, 0, none⟩ = some (.slice fs[i].q.1 fs[i].q.2.1 fs[i].q.2.2) := kk.cell 0
  have t3 : st1 w2 ⟨fs[i].fb, 1, none⟩ (.int .i64 (fs[i].q.2.1 : Int)) = some (w2.setCell ⟨fs[i].fb, 1, none⟩ (.int .i64 (fs[i].q.2.1 : Int))) := kk.st1 (by simp) rfl
  have f3 : Fr [fs[i].fb] w2 (w2.setCell ⟨fs[i].fb, 1, none⟩ (.int .i64 (fs[i].q.2.1 : Int))) := Fr.setCell
  have kk3 := kk.set 1 (.int .i64 (fs[i].q.2.1 : Int))
  simp only [List.set_cons_succ, List.set_cons_zero] at kk3
  have hb3 := hb2.fr f3 (by simpa using nb)
  have m3 := m2.fr f3 (by simpa using rf)
  have o3 := oo.fr f3 (by intro y hy hm; simp at hm; subst hm; exact nf hy)
  generalize w2.setCell ⟨fs[i].fb, 1, none⟩ (.int .i64 (fs[i].q.2.1 : Int)) = w3 at t3 f3 kk3 hb3 m3 o3
  have F : Fr [r, fs[i].fb] w w3 := (Fr.mono (Fr.app (Fr.app f1 f2) f3) (by have z0_ := Fr.size f1; have z1_ := Fr.size f2; have z2_ := Fr.size f3; intro y_ hy_ hl_; grind [blkOf]))
  have hS : ∀ y ∈ [r, fs[i].fb], ∀ j (hj : j < (fs.eraseIdx i).length), y ≠ (fs.eraseIdx i)[j].fb ∧ y ∉ blkOf (fs.eraseIdx i)[j].q := by
    intro y hy j hj
    have hl := hj
    rw [List.length_eraseIdx] at hl
    obtain ⟨k, hk, hki, ek⟩ : ∃ k, ∃ hk : k < fs.length, k ≠ i ∧ (fs.eraseIdx i)[j] = fs[k] := by
      by_cases h1 : j < i
      · exact ⟨j, by split at hl <;> omega, by omega, by rw [List.getElem_eraseIdx, dif_pos h1]⟩
      · exact ⟨j + 1, by split at hl <;> omega, by omega, by rw [List.getElem_eraseIdx, dif_neg h1]⟩
    rw [ek]
    simp at hy
    rcases hy with hy | hy
    · subst hy; exact ⟨hm.ne_blk (hfs.ok k hk).blk, hm.notin (hfs.ok k hk).own⟩
    · subst hy; exact ⟨(hfs.ap i k hi hk hki.symm).1, ok.apart (hfs.ok k hk)⟩
  have apart : ∀ j (hj : j < (fs.eraseIdx i).length), fs[i].fb ≠ (fs.eraseIdx i)[j].fb ∧ ∀ y ∈ blkOf fs[i].q, y ∉ blkOf (fs.eraseIdx i)[j].q := by
    intro j hj
    have hl := hj
    rw [List.length_eraseIdx] at hl
    obtain ⟨k, hk, hki, ek⟩ : ∃ k, ∃ hk : k < fs.length, k ≠ i ∧ (fs.eraseIdx i)[j] = fs[k] := by
      by_cases h1 : j < i
      · exact ⟨j, by split at hl <;> omega, by omega, by rw [List.getElem_eraseIdx, dif_pos h1]⟩
      · exact ⟨j + 1, by split at hl <;> omega, by omega, by rw [List.getElem_eraseIdx, dif_neg h1]⟩
    rw [ek]
    have := hfs.ap i k hi hk hki.symm
    exact ⟨this.1, this.2.2⟩
  obtain ⟨f, hf⟩ : ∃ f : FE, f = ⟨t, fs[i].fb, fs[i].q, fs[i].data, fs[i].data.length⟩ := ⟨_, rfl⟩
  have okf : FeOk w3 D f := by
    subst hf
    exact ⟨by show Blk w3 fs[i].fb [.slice fs[i].q.1 fs[i].q.2.1 fs[i].q.2.2, .int .i64 (fs[i].data.length : Int)] 63; rw [hol]; exact kk3, o3, ok.zs, Nat.le_refl _, ok.reg⟩
  have her := hfs.erase i
  have hel : (fs.eraseIdx i).length ≤ fs.length := List.length_eraseIdx_le _ _
  have fin : ∀ gs : List FE, Fs w3 D gs → keysOf gs = kups (keysOf (fs.eraseIdx i)) t (fun _ => .pointer (some ⟨fs[i].fb, 0, none⟩)) → kups (kdel (fs.map FE.ab) n) t (renF (fs[i].data, fs[i].syn)) = gs.map FE.ab → gs.length ≤ 4096 →
      Dk w3 D b (kups (kdel (fs.map FE.ab) n) t (renF (fs[i].data, fs[i].syn))) fuse false ∧ Chg D w w3 D := by
    intro gs h1 h2 h3 h4
    refine ⟨⟨⟨r, gs, h3, by rw [← hU]; exact hb3, by rw [h2]; exact m3, h1, hDr⟩, hDb, ?_, hfuse, by rw [← hU]; exact hUl, by rw [h3]; simpa using h4⟩, Chg.of_fr F ?_⟩
    · intro y hy; have := hlt y hy; have := F.size; omega
    · intro y hy _; simp at hy; rcases hy with hy | hy <;> subst hy
      · exact hDr
      · exact ok.reg.1
  refine ⟨w3, ?_, ?_⟩
  · unfold g19_j6
    simp only [c0, e1, d0, e2, d1, addr_add, Nat.zero_add, t3, obs, asP_pointer, asB_bool, asI_int, asS_string, asSl_slice, asM_map, asTup0, asTup1, asTup2, asTup3, asTup4, asTup5, asTup6, asTup7, asTup8, asTup9, asAgg2, asAgg3, asAgg4, asAgg5, asAgg6, asAgg7, asAgg8, asAgg9, asAgg12, getD0, getD1, getD2, getD3, getD4, getD5, getD6, getD7, getD8, getD9, getD10, getD11, getD12, getD13, getD14, getD15, getD16, getD17, getD18, getD19, Bool.not_true, Bool.not_false, Bool.false_eq_true, Bool.true_eq_false, ↓reduceIte, decide_true, decide_false, Option.isNone_some, Option.isNone_none, Option.isSome_some, Option.isSome_none, beq_self_eq_true, bne_self_eq_false, Bool.and_true, Bool.true_and, Bool.and_false, Bool.false_and, not_true_eq_false, not_false_eq_true]
  · rcases keysOf_get (fs.eraseIdx i) t with ⟨k, hk, k1, k2, k3, k4, k5, k6⟩ | ⟨k1, k2, k3, k4⟩
    · refine fin ((fs.eraseIdx i).set k f) ?_ ?_ ?_ (by rw [List.length_set]; omega)
      · refine her.place hk F (fun y hy j hj _ => hS y hy j hj) (fun _ => id) okf fun j hj hjk => ?_
        subst hf
        refine ⟨(apart j hj).1, ?_, (apart j hj).2⟩
        have := (her.ap k j hk hj (fun e => hjk e.symm)).2.1
        rw [k1] at this; exact this
      · have : ∀ (l : List (ByteArray × Value)) (t : ByteArray) (v : Value) (i : Nat) (hi : i < l.length), (∀ j (hj : j < l.length), l[j].1 = t → j = i) → l[i].1 = t → kups l t (fun _ => v) = l.set i (t, v) := by
          intro l t v i hi hu he
          rcases kcases l t with ⟨j, hj, g1, g2, g3, g4⟩ | ⟨g1, g2, g3, g4⟩
          · rw [g3, hu j hj g1]
          · exact absurd he (g2 i hi)
        rw [this (keysOf (fs.eraseIdx i)) t _ k (by simpa [keysOf] using hk) (by
          intro j hj he
          simp [keysOf] at he hj
          rcases Nat.lt_trichotomy j k with h | h | h
          · exact absurd (he.trans k1.symm) (her.ap j k hj hk (by omega)).2.1
          · exact h
          · exact absurd (he.trans k1.symm) (her.ap j k hj hk (by omega)).2.1) (by simpa [keysOf] using k1)]
        subst hf
        simp [keysOf, List.map_set]
      · rw [hk2, k4, List.map_set]; subst hf; rfl
    · refine fin (fs.eraseIdx i ++ [f]) ?_ ?_ ?_ (by have h9 : (fs.eraseIdx i).length = fs.length - 1 := (by rw [List.length_eraseIdx, if_pos hi]); simp only [List.length_append, List.length_cons, List.length_nil]; omega)
      · have h1 := her.fr F hS (fun _ => id)
        refine ⟨fun j hj => ?_, fun j k hj hk hjk => ?_⟩
        · rw [List.getElem_append]
          split
          · exact h1.ok j _
          · rename_i hlt
            have : j - (fs.eraseIdx i).length = 0 := by simp at hj; omega
            simp only [this, List.getElem_cons_zero]; exact okf
        · have apf : ∀ j (hj : j < (fs.eraseIdx i).length), f.fb ≠ (fs.eraseIdx i)[j].fb ∧ f.name ≠ (fs.eraseIdx i)[j].name ∧ ∀ y ∈ blkOf f.q, y ∉ blkOf (fs.eraseIdx i)[j].q := by
            intro j' hj'
            have a1 := apart j' hj'
            rw [hf]
            exact ⟨a1.1, (k3 j' hj').symm, a1.2⟩
          rw [List.getElem_append, List.getElem_append]
          simp only [List.length_append, List.length_cons, List.length_nil] at hj hk
          split
          · split
            · exact her.ap j k _ _ hjk
            · rename_i e1 e2
              have : k - (fs.eraseIdx i).length = 0 := by omega
              simp only [this, List.getElem_cons_zero]
              obtain ⟨a, b, c⟩ := apf j e1
              exact ⟨a.symm, b.symm, fun y hy hm => c y hm hy⟩
          · split
            · rename_i e1 e2
              have : j - (fs.eraseIdx i).length = 0 := by omega
              simp only [this, List.getElem_cons_zero]
              exact apf k e2
            · omega
      · rcases kcases (keysOf (fs.eraseIdx i)) t with ⟨j, hj, g1, g2, g3, g4⟩ | ⟨g1, g2, g3, g4⟩
        · have hj' : j < (fs.eraseIdx i).length := by simpa [keysOf] using hj
          have g1' : (fs.eraseIdx i)[j].name = t := by simpa [keysOf] using g1
          exact absurd g1' (k3 j hj')
        · rw [g3]; subst hf; simp [keysOf]
      · rw [hk2, k4]; subst hf; simp [FE.ab, renF]
end
end Go.Proofs.Ytkmidlhnlnolnaa
