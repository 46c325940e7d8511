/-
  DiskI: lemmas on what Go functions of this seat come to (for whatever arguments, as each says). No condition but those that stand in each lemma.
-/
import Derived.Test.YtkmidlhnlnolnaaDiskH
namespace Go.Proofs.Ytkmidlhnlnolnaa
open Go Go.Ev
set_option maxRecDepth 100000
set_option linter.unusedVariables false
set_option linter.unusedSimpArgs false

def lenO (o : Option FV) : Nat := match o with | none => 0 | some v => v.1.length
theorem used_kups (B : List (ByteArray × FV)) (t : ByteArray) (g : Option FV → FV) : used (kups B t g) + lenO (kget B t) = used B + (g (kget B t)).1.length := by
  induction B with
  | nil => simp [used, kups, kget_nil, lenO]
  | cons e B ih =>
    rw [kget_cons]
    by_cases h : t = e.1
    · simp only [kups, h, if_true, used, List.map_cons, List.sum_cons, lenO]; omega
    · simp only [kups, h, if_false, used, List.map_cons, List.sum_cons] at ih ⊢; omega
theorem used_kdel (B : List (ByteArray × FV)) (t : ByteArray) : used (kdel B t) + lenO (kget B t) = used B := by
  induction B with
  | nil => simp [used, kdel, kget_nil, lenO]
  | cons e B ih =>
    rw [kget_cons]
    by_cases h : t = e.1
    · simp only [kdel, h, if_true, used, List.map_cons, List.sum_cons, lenO]; omega
    · simp only [kdel, h, if_false, used, List.map_cons, List.sum_cons] at ih ⊢; omega

theorem Fs.one {w : World} {D : Nat → Prop} {fs : List FE} (h : Fs w D fs) : kone (fs.map FE.ab) := by
  unfold kone
  rw [List.Nodup, List.pairwise_iff_getElem]
  intro i j hi hj hij
  simp only [List.length_map] at hi hj
  simp only [List.getElem_map]
  exact (h.ap i j hi hj (by omega)).2.1

section
variable {w : World} {D : Nat → Prop} {b : Nat} {A : List (ByteArray × FV)} {fuse : Int} {dead : Bool}

theorem Dk.one (h : Dk w D b A fuse dead) : kone A := by
  obtain ⟨r, fs, h1, h2, h3, h4, h5⟩ := h.ex
  subst h1; exact h4.one

theorem rename19 (h : Dk w D b A fuse dead) (n t : ByteArray) : ∃ w', callF Try.prog 19 #[.pointer (some ⟨b, 0, none⟩), .string n, .string t] w = some (.int .i64 (renameA A dead n t).1, w') ∧ Dk w' D b (renameA A dead n t).2 fuse dead ∧ Chg D w w' D := by
  have h90 : ((9 : Int) != 0) = true := by decide
  have h40 : ((4 : Int) != 0) = true := by decide
  have h00 : ((0 : Int) != 0) = false := by decide
  cases dead with
  | true =>
    have e := find26_dead h n
    have : (renameA A true n t) = (9, A) := by unfold renameA; rw [if_pos rfl]
    rw [this]
    refine ⟨w, g19_call ?_, h, Chg.refl _ _⟩
    unfold g19
    simp only [e, h90, obs, asP_pointer, asB_bool, asI_int, asS_string, asSl_slice, asM_map, asTup0, asTup1, asTup2, asTup3, asTup4, asTup5, asTup6, asTup7, asTup8, asTup9, asAgg2, asAgg3, asAgg4, asAgg5, asAgg6, asAgg7, asAgg8, asAgg9, asAgg12, getD0, getD1, getD2, getD3, getD4, getD5, getD6, getD7, getD8, getD9, getD10, getD11, getD12, getD13, getD14, getD15, getD16, getD17, getD18, getD19, Bool.not_true, Bool.not_false, Bool.false_eq_true, Bool.true_eq_false, ↓reduceIte, decide_true, decide_false, Option.isNone_some, Option.isNone_none, Option.isSome_some, Option.isSome_none, beq_self_eq_true, bne_self_eq_false, Bool.and_true, Bool.true_and, Bool.and_false, Bool.false_and, not_true_eq_false, not_false_eq_true]
  | false =>
    obtain ⟨r, fs, h1, h2, h3, h4, h5, hc⟩ := find26 h n
    rcases hc with ⟨i, hi, k1, e, k3, k4, k5, k6⟩ | ⟨k1, e⟩
    · by_cases hbad : t.size = 0 ∨ t.size > 24
      · have hs : renameA A false n t = (1, A) := by unfold renameA; rw [if_neg (by decide), k3]; simp only; rw [if_pos hbad]
        rw [hs]
        refine ⟨w, g19_call ?_, h, Chg.refl _ _⟩
        by_cases h0 : t.size = 0
        · have hst : (t.toList == (⟨#[]⟩ : ByteArray).toList) = true := by rw [str_empty]; simpa using h0
          unfold g19
          simp only [e, h00, hst, obs, asP_pointer, asB_bool, asI_int, asS_string, asSl_slice, asM_map, asTup0, asTup1, asTup2, asTup3, asTup4, asTup5, asTup6, asTup7, asTup8, asTup9, asAgg2, asAgg3, asAgg4, asAgg5, asAgg6, asAgg7, asAgg8, asAgg9, asAgg12, getD0, getD1, getD2, getD3, getD4, getD5, getD6, getD7, getD8, getD9, getD10, getD11, getD12, getD13, getD14, getD15, getD16, getD17, getD18, getD19, Bool.not_true, Bool.not_false, Bool.false_eq_true, Bool.true_eq_false, ↓reduceIte, decide_true, decide_false, Option.isNone_some, Option.isNone_none, Option.isSome_some, Option.isSome_none, beq_self_eq_true, bne_self_eq_false, Bool.and_true, Bool.true_and, Bool.and_false, Bool.false_and, not_true_eq_false, not_false_eq_true]
        · have hst : (t.toList == (⟨#[]⟩ : ByteArray).toList) = false := by rw [str_empty]; simpa using h0
          have hg : (t.size : Int) > 24 := by omega
          unfold g19
          simp only [e, h00, hst, hg, obs, asP_pointer, asB_bool, asI_int, asS_string, asSl_slice, asM_map, asTup0, asTup1, asTup2, asTup3, asTup4, asTup5, asTup6, asTup7, asTup8, asTup9, asAgg2, asAgg3, asAgg4, asAgg5, asAgg6, asAgg7, asAgg8, asAgg9, asAgg12, getD0, getD1, getD2, getD3, getD4, getD5, getD6, getD7, getD8, getD9, getD10, getD11, getD12, getD13, getD14, getD15, getD16, getD17, getD18, getD19, Bool.not_true, Bool.not_false, Bool.false_eq_true, Bool.true_eq_false, ↓reduceIte, decide_true, decide_false, Option.isNone_some, Option.isNone_none, Option.isSome_some, Option.isSome_none, beq_self_eq_true, bne_self_eq_false, Bool.and_true, Bool.true_and, Bool.and_false, Bool.false_and, not_true_eq_false, not_false_eq_true]
      · have h0 : ¬ t.size = 0 := by omega
        have hst : (t.toList == (⟨#[]⟩ : ByteArray).toList) = false := by rw [str_empty]; simpa using h0
        have hg : ¬ (t.size : Int) > 24 := by omega
        by_cases hnt : n = t
        · have hs : renameA A false n t = (0, A) := by unfold renameA; rw [if_neg (by decide), k3]; simp only; rw [if_neg hbad, if_pos hnt]
          rw [hs]
          refine ⟨w, g19_call ?_, h, Chg.refl _ _⟩
          have hq : (n.toList == t.toList) = true := by rw [str_eq]; simpa using hnt
          unfold g19
          simp only [e, h00, hst, hg, hq, obs, asP_pointer, asB_bool, asI_int, asS_string, asSl_slice, asM_map, asTup0, asTup1, asTup2, asTup3, asTup4, asTup5, asTup6, asTup7, asTup8, asTup9, asAgg2, asAgg3, asAgg4, asAgg5, asAgg6, asAgg7, asAgg8, asAgg9, asAgg12, getD0, getD1, getD2, getD3, getD4, getD5, getD6, getD7, getD8, getD9, getD10, getD11, getD12, getD13, getD14, getD15, getD16, getD17, getD18, getD19, Bool.not_true, Bool.not_false, Bool.false_eq_true, Bool.true_eq_false, ↓reduceIte, decide_true, decide_false, Option.isNone_some, Option.isNone_none, Option.isSome_some, Option.isSome_none, beq_self_eq_true, bne_self_eq_false, Bool.and_true, Bool.true_and, Bool.and_false, Bool.false_and, not_true_eq_false, not_false_eq_true]
        · have hs : renameA A false n t = (0, kups (kdel A n) t (renF (fs[i].data, fs[i].syn))) := by unfold renameA; rw [if_neg (by decide), k3]; simp only; rw [if_neg hbad, if_neg hnt]
          rw [hs]
          have hq : (n.toList == t.toList) = false := by rw [str_eq]; simpa using hnt
          have hus := h.used
          have hone := h.one
          have c0 : w.cell? ⟨b, 0, none⟩ = some (.map (some r)) := h2.cell 0
          have lk := look_ptr h3 t
          have u1 := used_kups (kdel A n) t (renF (fs[i].data, fs[i].syn))
          have u2 := used_kdel A n
          rw [kget_del hone, if_neg (fun e => hnt e.symm)] at u1
          rw [k3] at u2
          simp only [lenO, renF] at u1 u2
          subst h1
          rcases keysOf_get fs t with ⟨k, hk, g1, g2, g3, g4, g5, g6⟩ | ⟨g1, g2, g3, g4⟩
          · rw [g2] at lk
            rw [g3] at u1
            simp only at u1
            have okk := h4.ok k hk
            have hol := okk.own.len
            simp only [List.length_map, Nat.mul_one] at hol
            have f0 : Fr [] w w.drew := Fr.drew _ _
            have c3 : w.drew.cell? ⟨b, 3, none⟩ = some (.int .i64 ((used (fs.map FE.ab) : Nat) : Int)) := h2.drew.cell 3
            have c0d : w.drew.cell? ⟨fs[k].fb, 0, none⟩ = some (.slice fs[k].q.1 fs[k].q.2.1 fs[k].q.2.2) := okk.blk.drew.cell 0
            have hug := used_get hk
            have hw2 : IntKind.i64.wrap (((used (fs.map FE.ab) : Nat) : Int) - (fs[k].q.2.1 : Int)) = ((used (kups (kdel (fs.map FE.ab) n) t (renF (fs[i].data, fs[i].syn))) : Nat) : Int) := by rw [wrap_i64 (by omega) (by omega)]; omega
            obtain ⟨U, hU⟩ : ∃ U, used (kups (kdel (fs.map FE.ab) n) t (renF (fs[i].data, fs[i].syn))) = U := ⟨_, rfl⟩
            rw [hU] at hw2
            have t1 : st1 w.drew ⟨b, 3, none⟩ (.int .i64 (U : Int)) = some (w.drew.setCell ⟨b, 3, none⟩ (.int .i64 (U : Int))) := h2.drew.st1 (by simp) rfl
            have f1 : Fr [b] w.drew (w.drew.setCell ⟨b, 3, none⟩ (.int .i64 (U : Int))) := Fr.setCell
            have hb1 := h2.drew.set 3 (.int .i64 (U : Int))
            simp only [List.set_cons_succ, List.set_cons_zero] at hb1
            have rb : r ≠ b := h3.ne_blk h2
            have m1 := h3.drew.fr f1 (by simpa using rb)
            have F1 : Fr [b] w (w.drew.setCell ⟨b, 3, none⟩ (.int .i64 (U : Int))) := (Fr.mono (Fr.app f0 f1) (by have z0_ := Fr.size f0; have z1_ := Fr.size f1; intro y_ hy_ hl_; grind [blkOf]))
            have fs1 := h4.fr F1 (by intro y hy j hj; simp at hy; subst hy; exact ⟨h2.ne (h4.ok j hj).blk (by decide), h2.notin (h4.ok j hj).own (by decide)⟩) (fun _ => id)
            obtain ⟨w', e6, d, c⟩ := tail6 (t := t) hb1 m1 fs1 h5 h.db (by intro y hy; have := h.lt y hy; have := F1.size; omega) h.fuse (by have := h.len; simpa using this) hi k1 hnt hU.symm (by omega)
            refine ⟨w', g19_call ?_, d, Chg.trans (Chg.of_fr F1 (by intro y hy _; simp at hy; subst hy; exact h.db)) c h.lt⟩
            unfold g19
            simp only [e, h00, hst, hg, hq, c0, lk, Option.getD_some, addr_add, Nat.zero_add, c3, c0d, hw2, t1, e6, obs, asP_pointer, asB_bool, asI_int, asS_string, asSl_slice, asM_map, asTup0, asTup1, asTup2, asTup3, asTup4, asTup5, asTup6, asTup7, asTup8, asTup9, asAgg2, asAgg3, asAgg4, asAgg5, asAgg6, asAgg7, asAgg8, asAgg9, asAgg12, getD0, getD1, getD2, getD3, getD4, getD5, getD6, getD7, getD8, getD9, getD10, getD11, getD12, getD13, getD14, getD15, getD16, getD17, getD18, getD19, Bool.not_true, Bool.not_false, Bool.false_eq_true, Bool.true_eq_false, ↓reduceIte, decide_true, decide_false, Option.isNone_some, Option.isNone_none, Option.isSome_some, Option.isSome_none, beq_self_eq_true, bne_self_eq_false, Bool.and_true, Bool.true_and, Bool.and_false, Bool.false_and, not_true_eq_false, not_false_eq_true]
          · rw [g1] at lk
            rw [g2] at u1
            simp only at u1
            have hbu : Blk w b [.map (some r), .int .i64 fuse, .bool false, .int .i64 ((used (kups (kdel (fs.map FE.ab) n) t (renF (fs[i].data, fs[i].syn))) : Nat) : Int)] 59 := by
              have : ((used (kups (kdel (fs.map FE.ab) n) t (renF (fs[i].data, fs[i].syn))) : Nat) : Int) = ((used (fs.map FE.ab) : Nat) : Int) := by omega
              rw [this]; exact h2
            obtain ⟨w', e6, d, c⟩ := tail6 (t := t) hbu h3 h4 h5 h.db h.lt h.fuse (by have := h.len; simpa using this) hi k1 hnt rfl (by omega)
            refine ⟨w', g19_call ?_, d, c⟩
            unfold g19
            simp only [e, h00, hst, hg, hq, c0, lk, Option.getD_none, e6, obs, asP_pointer, asB_bool, asI_int, asS_string, asSl_slice, asM_map, asTup0, asTup1, asTup2, asTup3, asTup4, asTup5, asTup6, asTup7, asTup8, asTup9, asAgg2, asAgg3, asAgg4, asAgg5, asAgg6, asAgg7, asAgg8, asAgg9, asAgg12, getD0, getD1, getD2, getD3, getD4, getD5, getD6, getD7, getD8, getD9, getD10, getD11, getD12, getD13, getD14, getD15, getD16, getD17, getD18, getD19, Bool.not_true, Bool.not_false, Bool.false_eq_true, Bool.true_eq_false, ↓reduceIte, decide_true, decide_false, Option.isNone_some, Option.isNone_none, Option.isSome_some, Option.isSome_none, beq_self_eq_true, bne_self_eq_false, Bool.and_true, Bool.true_and, Bool.and_false, Bool.false_and, not_true_eq_false, not_false_eq_true]
    · have hs : renameA A false n t = (4, A) := by unfold renameA; rw [if_neg (by decide), k1]
      rw [hs]
      refine ⟨w, g19_call ?_, h, Chg.refl _ _⟩
      unfold g19
      simp only [e, h40, obs, asP_pointer, asB_bool, asI_int, asS_string, asSl_slice, asM_map, asTup0, asTup1, asTup2, asTup3, asTup4, asTup5, asTup6, asTup7, asTup8, asTup9, asAgg2, asAgg3, asAgg4, asAgg5, asAgg6, asAgg7, asAgg8, asAgg9, asAgg12, getD0, getD1, getD2, getD3, getD4, getD5, getD6, getD7, getD8, getD9, getD10, getD11, getD12, getD13, getD14, getD15, getD16, getD17, getD18, getD19, Bool.not_true, Bool.not_false, Bool.false_eq_true, Bool.true_eq_false, ↓reduceIte, decide_true, decide_false, Option.isNone_some, Option.isNone_none, Option.isSome_some, Option.isSome_none, beq_self_eq_true, bne_self_eq_false, Bool.and_true, Bool.true_and, Bool.and_false, Bool.false_and, not_true_eq_false, not_false_eq_true]

/-! ## a crash -/
/-- how many bytes a crash leaves -/
def leftN (keep : Int) (v : FV) : Nat := v.2 + (keep % 18446744073709551616).toNat % (v.1.length - v.2 + 1)
def crashV (keep : Int) (v : FV) : FV := (v.1.take (leftN keep v), leftN keep v)
def crashE (keep : Int) (f : FE) : FE := ⟨f.name, f.fb, (f.q.1, leftN keep (f.data, f.syn), leftN keep (f.data, f.syn)), f.data.take (leftN keep (f.data, f.syn)), leftN keep (f.data, f.syn)⟩
def crashA (keep : Int) (A : List (ByteArray × FV)) : List (ByteArray × FV) := A.map fun e => (e.1, crashV keep e.2)

theorem leftN_le (keep : Int) {v : FV} (h : v.2 ≤ v.1.length) : v.2 ≤ leftN keep v ∧ leftN keep v ≤ v.1.length := by
  have := Nat.mod_lt (keep % 18446744073709551616).toNat (show 0 < v.1.length - v.2 + 1 by omega)
  unfold leftN; omega

/-- the files, those at the places vis crashed -/
def fsv (keep : Int) (fs : List FE) (vis : List Nat) : List FE := fs.mapIdx fun i f => if i ∈ vis then crashE keep f else f

theorem fsv_length {keep : Int} {fs : List FE} {vis : List Nat} : (fsv keep fs vis).length = fs.length := by simp [fsv]
theorem fsv_get {keep : Int} {fs : List FE} {vis : List Nat} {i : Nat} (h : i < (fsv keep fs vis).length) (h' : i < fs.length) : (fsv keep fs vis)[i] = if i ∈ vis then crashE keep fs[i] else fs[i] := by simp [fsv]
theorem fsv_nil {keep : Int} {fs : List FE} : fsv keep fs [] = fs := by
  apply List.ext_getElem
  · simp [fsv]
  · intro i h1 h2; simp [fsv]
theorem fsv_all {keep : Int} {fs : List FE} {vis : List Nat} (h : ∀ i, i < fs.length → i ∈ vis) : fsv keep fs vis = fs.map (crashE keep) := by
  apply List.ext_getElem
  · simp [fsv]
  · intro i h1 h2
    have : i < fs.length := by simpa [fsv] using h1
    simp [fsv, h i this]
theorem fsv_step {keep : Int} {fs : List FE} {vis : List Nat} {i : Nat} (hi : i < fs.length) (hv : i ∉ vis) : fsv keep fs (vis ++ [i]) = (fsv keep fs vis).set i (crashE keep fs[i]) := by
  apply List.ext_getElem
  · simp [fsv]
  · intro j h1 h2
    have hj : j < fs.length := by simpa [fsv] using h1
    rw [List.getElem_set, fsv_get h1 hj]
    by_cases h : i = j
    · subst h; simp
    · have h' : ¬ j = i := fun e => h e.symm
      rw [if_neg h, fsv_get (by rw [fsv_length]; exact hj) hj]
      simp [h']
theorem fsv_keys {keep : Int} {fs : List FE} {vis : List Nat} : keysOf (fsv keep fs vis) = keysOf fs := by
  apply List.ext_getElem
  · simp [keysOf, fsv]
  · intro j h1 h2
    have hj : j < fs.length := by simpa [keysOf] using h2
    simp only [keysOf, List.getElem_map]
    rw [fsv_get (by rw [fsv_length]; exact hj) hj]
    split <;> rfl

structure CInv (W : World) (D : Nat → Prop) (b r it : Nat) (fs : List FE) (fuse keep : Int) (dead : Bool) (k : Nat) (x : World) : Prop where
  ex : ∃ vis : List Nat, vis.length = k ∧ Iter Value.string x it r (keysOf fs) vis ∧ Fs x D (fsv keep fs vis) ∧
    Blk x b [.map (some r), .int .i64 fuse, .bool dead, .int .i64 ((used ((fsv keep fs vis).map FE.ab) : Nat) : Int)] 59 ∧ used ((fsv keep fs vis).map FE.ab) ≤ 4194304
  chg : ∃ S, Fr S W x ∧ ∀ y ∈ S, D y

theorem crash_round {W : World} {r it : Nat} {fs : List FE} {keep : Int} (hk : -9223372036854775808 ≤ keep ∧ keep < 9223372036854775808) (hDr : D r) (hDb : D b) (hit : ¬ D it) (hW : W.heap.size ≤ it) (k : Nat) (x : World) (hi : CInv W D b r it fs fuse keep dead k x) :
    (k = fs.length ∧ g14_l6_b (some ⟨it, 0, none⟩) (some ⟨b, 0, none⟩) keep () x = some (.exit 0, (), x)) ∨
    (k < fs.length ∧ ∃ x', g14_l6_b (some ⟨it, 0, none⟩) (some ⟨b, 0, none⟩) keep () x = some (.normal, (), x') ∧ CInv W D b r it fs fuse keep dead (k + 1) x') := by
  obtain ⟨⟨vis, hvl, hit', hfs, hb, hul⟩, S0, F0, hS0⟩ := hi
  have hne : it ≠ r := fun e => hit (e ▸ hDr)
  have hneb : it ≠ b := fun e => hit (e ▸ hDb)
  have hkl : (keysOf fs).length = fs.length := by simp [keysOf]
  rcases iter_next (P := Try.prog) hit' hne 0 with ⟨h1, h2⟩ | ⟨h1, i, hi', x1, hv, h2, h3, f1, h4⟩
  · left
    refine ⟨by omega, ?_⟩
    unfold g14_l6_b
    simp only [h2, asNext_f, onNext_n, obs, asP_pointer, asB_bool, asI_int, asS_string, asSl_slice, asM_map, asTup0, asTup1, asTup2, asTup3, asTup4, asTup5, asTup6, asTup7, asTup8, asTup9, asAgg2, asAgg3, asAgg4, asAgg5, asAgg6, asAgg7, asAgg8, asAgg9, asAgg12, getD0, getD1, getD2, getD3, getD4, getD5, getD6, getD7, getD8, getD9, getD10, getD11, getD12, getD13, getD14, getD15, getD16, getD17, getD18, getD19, Bool.not_true, Bool.not_false, Bool.false_eq_true, Bool.true_eq_false, ↓reduceIte, decide_true, decide_false, Option.isNone_some, Option.isNone_none, Option.isSome_some, Option.isSome_none, beq_self_eq_true, bne_self_eq_false, Bool.and_true, Bool.true_and, Bool.and_false, Bool.false_and, not_true_eq_false, not_false_eq_true]
  · right
    rw [hkl] at hi' h1
    refine ⟨by omega, ?_⟩
    have hki : (keysOf fs)[i]'(by rw [hkl]; exact hi') = (fs[i].name, .pointer (some ⟨fs[i].fb, 0, none⟩)) := by simp [keysOf]
    rw [hki] at h2 h4
    simp only at h2 h4
    -- the file
    have hgi : (fsv keep fs vis)[i]'(by rw [fsv_length]; exact hi') = fs[i] := by rw [fsv_get (by rw [fsv_length]; exact hi') hi', if_neg hv]
    have ok := hfs.ok i (by rw [fsv_length]; exact hi')
    rw [hgi] at ok
    have hitfb : it ≠ fs[i].fb := fun e => hit (e ▸ ok.reg.1)
    have hitq : it ∉ blkOf fs[i].q := fun hm => hit (ok.reg.2 _ hm)
    have hug := used_get (fs := fsv keep fs vis) (i := i) (by rw [fsv_length]; exact hi')
    rw [hgi] at hug
    have hol := ok.own.len
    simp only [List.length_map, Nat.mul_one] at hol
    have hsyn := ok.syn
    have hle := ok.own.le
    obtain ⟨hl1, hl2⟩ := leftN_le keep (v := (fs[i].data, fs[i].syn)) hsyn
    simp only at hl1 hl2
    obtain ⟨L, hL⟩ : ∃ L, leftN keep (fs[i].data, fs[i].syn) = L := ⟨_, rfl⟩
    rw [hL] at hl1 hl2
    have b1 := hb.fr f1 (by simpa using hneb.symm)
    have k1 := ok.blk.fr f1 (by simpa using hitfb.symm)
    have o1 := ok.own.fr f1 (by intro y hy hm; simp at hm; subst hm; exact hitq hy)
    have fd1 : Fr [] x1 x1.drew := Fr.drew _ _
    have fd2 : Fr [] x1.drew x1.drew.drew := Fr.drew _ _
    have fd3 : Fr [] x1.drew.drew x1.drew.drew.drew := Fr.drew _ _
    have c0 : x1.drew.cell? ⟨fs[i].fb, 0, none⟩ = some (.slice fs[i].q.1 fs[i].q.2.1 fs[i].q.2.2) := k1.cell 0
    have c1 : x1.drew.cell? ⟨fs[i].fb, 1, none⟩ = some (.int .i64 (fs[i].syn : Int)) := k1.cell 1
    have c1' : x1.drew.drew.cell? ⟨fs[i].fb, 1, none⟩ = some (.int .i64 (fs[i].syn : Int)) := k1.cell 1
    have c3 : x1.drew.drew.drew.cell? ⟨b, 3, none⟩ = some (.int .i64 ((used ((fsv keep fs vis).map FE.ab) : Nat) : Int)) := b1.cell 3
    have c0' : x1.drew.drew.drew.cell? ⟨fs[i].fb, 0, none⟩ = some (.slice fs[i].q.1 fs[i].q.2.1 fs[i].q.2.2) := k1.cell 0
    have w1 : IntKind.i64.wrap ((fs[i].q.2.1 : Int) - (fs[i].syn : Int)) = ((fs[i].data.length - fs[i].syn : Nat) : Int) := by rw [wrap_i64 (by omega) (by omega)]; omega
    have w2 : IntKind.i64.wrap (((fs[i].data.length - fs[i].syn : Nat) : Int) + 1) = ((fs[i].data.length - fs[i].syn + 1 : Nat) : Int) := wrap_succ (by omega)
    have w3 : IntKind.u64.wrap ((fs[i].data.length - fs[i].syn + 1 : Nat) : Int) = ((fs[i].data.length - fs[i].syn + 1 : Nat) : Int) := wrap_u64 (by omega) (by omega)
    have hnz : ¬ ((fs[i].data.length - fs[i].syn + 1 : Nat) : Int) = 0 := by omega
    have wk : IntKind.u64.wrap keep = keep % 18446744073709551616 := by simp [IntKind.wrap, IntKind.bits, IntKind.signed]
    have hk0 : 0 ≤ keep % 18446744073709551616 := Int.emod_nonneg _ (by decide)
    have wm : IntKind.i64.wrap (Int.tmod (keep % 18446744073709551616) ((fs[i].data.length - fs[i].syn + 1 : Nat) : Int)) = ((L - fs[i].syn : Nat) : Int) := by
      have hLd : L - fs[i].syn = (keep % 18446744073709551616).toNat % (fs[i].data.length - fs[i].syn + 1) := by rw [← hL]; unfold leftN; simp
      have hmd : Int.tmod (keep % 18446744073709551616) ((fs[i].data.length - fs[i].syn + 1 : Nat) : Int) = (((keep % 18446744073709551616).toNat % (fs[i].data.length - fs[i].syn + 1) : Nat) : Int) := by
        rw [Int.tmod_eq_emod_of_nonneg hk0]
        obtain ⟨m, hm⟩ := Int.eq_ofNat_of_zero_le hk0
        rw [hm, Int.toNat_natCast]; rfl
      rw [hmd, ← hLd, wrap_i64 (by omega) (by omega)]
    have w4 : IntKind.i64.wrap ((fs[i].syn : Int) + ((L - fs[i].syn : Nat) : Int)) = (L : Int) := by rw [wrap_i64 (by omega) (by omega)]; omega
    have w5 : IntKind.i64.wrap ((fs[i].q.2.1 : Int) - (L : Int)) = ((fs[i].data.length - L : Nat) : Int) := by rw [wrap_i64 (by omega) (by omega)]; omega
    have w6 : IntKind.i64.wrap (((used ((fsv keep fs vis).map FE.ab) : Nat) : Int) - ((fs[i].data.length - L : Nat) : Int)) = ((used ((fsv keep fs vis).map FE.ab) - (fs[i].data.length - L) : Nat) : Int) := by rw [wrap_i64 (by omega) (by omega)]; omega
    have hus := used_set (fs := fsv keep fs vis) (i := i) (by rw [fsv_length]; exact hi') (fs[i].data.take L) L fs[i].name
    rw [hgi, List.length_take] at hus
    have hab : (fsv keep fs (vis ++ [i])).map FE.ab = ((fsv keep fs vis).map FE.ab).set i (fs[i].name, fs[i].data.take L, L) := by
      rw [fsv_step hi' hv, List.map_set]
      simp only [FE.ab, crashE, hL]
    obtain ⟨U, hU⟩ : ∃ U, used ((fsv keep fs vis).map FE.ab) - (fs[i].data.length - L) = U := ⟨_, rfl⟩
    rw [hU] at w6
    have hUu : used ((fsv keep fs (vis ++ [i])).map FE.ab) = U := by rw [hab]; omega
    have t1 : st1 x1.drew.drew.drew ⟨b, 3, none⟩ (.int .i64 (U : Int)) = some (x1.drew.drew.drew.setCell ⟨b, 3, none⟩ (.int .i64 (U : Int))) := b1.drew.drew.drew.st1 (by simp) rfl
    have g1 : Fr [b] x1.drew.drew.drew (x1.drew.drew.drew.setCell ⟨b, 3, none⟩ (.int .i64 (U : Int))) := Fr.setCell
    have b2 := b1.drew.drew.drew.set 3 (.int .i64 (U : Int))
    simp only [List.set_cons_succ, List.set_cons_zero] at b2
    have nb : b ≠ fs[i].fb := hb.ne ok.blk (by decide)
    have nbq : b ∉ blkOf fs[i].q := hb.notin ok.own (by decide)
    have k2 := k1.drew.drew.drew.fr g1 (by simpa using nb.symm)
    have o2 := o1.drew.drew.drew.fr g1 (by intro y hy hm; simp at hm; subst hm; exact nbq hy)
    generalize x1.drew.drew.drew.setCell ⟨b, 3, none⟩ (.int .i64 (U : Int)) = x2 at t1 g1 b2 k2 o2
    have d0 : x2.cell? ⟨fs[i].fb, 0, none⟩ = some (.slice fs[i].q.1 fs[i].q.2.1 fs[i].q.2.2) := k2.cell 0
    have es := slc3 (u := fs[i].q) (j := L) (by omega)
    have t2 : st1 x2 ⟨fs[i].fb, 0, none⟩ (.slice fs[i].q.1 L L) = some (x2.setCell ⟨fs[i].fb, 0, none⟩ (.slice fs[i].q.1 L L)) := k2.st1 (by simp) rfl
    have g2 : Fr [fs[i].fb] x2 (x2.setCell ⟨fs[i].fb, 0, none⟩ (.slice fs[i].q.1 L L)) := Fr.setCell
    have k3 := k2.set 0 (.slice fs[i].q.1 L L)
    simp only [List.set_cons_zero] at k3
    have b3 := b2.fr g2 (by simpa using nb)
    have nf : fs[i].fb ∉ blkOf fs[i].q := ok.apart ok
    have o3 := o2.fr g2 (by intro y hy hm; simp at hm; subst hm; exact nf hy)
    generalize x2.setCell ⟨fs[i].fb, 0, none⟩ (.slice fs[i].q.1 L L) = x3 at t2 g2 k3 b3 o3
    have t3 : st1 x3 ⟨fs[i].fb, 1, none⟩ (.int .i64 (L : Int)) = some (x3.setCell ⟨fs[i].fb, 1, none⟩ (.int .i64 (L : Int))) := k3.st1 (by simp) rfl
    have g3 : Fr [fs[i].fb] x3 (x3.setCell ⟨fs[i].fb, 1, none⟩ (.int .i64 (L : Int))) := Fr.setCell
    have k4 := k3.set 1 (.int .i64 (L : Int))
    simp only [List.set_cons_succ, List.set_cons_zero] at k4
    have b4 := b3.fr g3 (by simpa using nb)
    have o4 := Own.cut (o3.fr g3 (by intro y hy hm; simp at hm; subst hm; exact nf hy)) (j := L) (by omega)
    rw [← List.map_take] at o4
    generalize x3.setCell ⟨fs[i].fb, 1, none⟩ (.int .i64 (L : Int)) = x4 at t3 g3 k4 b4 o4
    have G : Fr [b, fs[i].fb] x1 x4 := (Fr.mono (Fr.app (Fr.app (Fr.app (Fr.app (Fr.app fd1 fd2) fd3) g1) g2) g3) (by have z0_ := Fr.size fd1; have z1_ := Fr.size fd2; have z2_ := Fr.size fd3; have z3_ := Fr.size g1; have z4_ := Fr.size g2; have z5_ := Fr.size g3; intro y_ hy_ hl_; grind [blkOf]))
    have rb : r ≠ b := hit'.map.ne_blk hb
    have rf : r ≠ fs[i].fb := hit'.map.ne_blk ok.blk
    have rq : r ∉ blkOf fs[i].q := hit'.map.notin ok.own
    have GG : Fr [it, b, fs[i].fb] x x4 := (Fr.mono (Fr.app f1 G) (by have z0_ := Fr.size f1; have z1_ := Fr.size G; intro y_ hy_ hl_; grind [blkOf]))
    have zz := F0.size
    refine ⟨x4, ?_, ⟨vis ++ [i], by simp [hvl], h3.fr G (by simp [hneb, hitfb]) (by simp [rb, rf]), ?_, ?_, by rw [hUu]; omega⟩, ⟨(S0 ++ [it, b, fs[i].fb]).filter (· < W.heap.size), ?_, ?_⟩⟩
    · unfold g14_l6_b
      simp only [h2, asNext_t, onNext_s, h4, c0, addr_add, Nat.zero_add, c1, w1, w2, w3, hnz, c1', wk, wm, w4, c3, c0', w5, w6, t1, d0, es, t2, t3, obs, asP_pointer, asB_bool, asI_int, asS_string, asSl_slice, asM_map, asTup0, asTup1, asTup2, asTup3, asTup4, asTup5, asTup6, asTup7, asTup8, asTup9, asAgg2, asAgg3, asAgg4, asAgg5, asAgg6, asAgg7, asAgg8, asAgg9, asAgg12, getD0, getD1, getD2, getD3, getD4, getD5, getD6, getD7, getD8, getD9, getD10, getD11, getD12, getD13, getD14, getD15, getD16, getD17, getD18, getD19, Bool.not_true, Bool.not_false, Bool.false_eq_true, Bool.true_eq_false, ↓reduceIte, decide_true, decide_false, Option.isNone_some, Option.isNone_none, Option.isSome_some, Option.isSome_none, beq_self_eq_true, bne_self_eq_false, Bool.and_true, Bool.true_and, Bool.and_false, Bool.false_and, not_true_eq_false, not_false_eq_true]
    · rw [fsv_step hi' hv]
      refine hfs.set (i := i) (by rw [fsv_length]; exact hi') (by rw [hgi]; rfl) (by rw [hgi]; rfl) GG ?_ (fun _ => id) ?_ ?_
      · intro y hy
        rw [hgi]
        simp only [List.mem_cons, List.not_mem_nil, or_false] at hy
        rcases hy with hy | hy | hy
        · subst hy; right; right
          intro j hj
          exact ⟨fun e => hit (e ▸ (hfs.ok j hj).reg.1), fun hm => hit ((hfs.ok j hj).reg.2 _ hm)⟩
        · subst hy; right; right; exact fun j hj => ⟨hb.ne (hfs.ok j hj).blk (by decide), hb.notin (hfs.ok j hj).own (by decide)⟩
        · exact .inl hy
      · have : crashE keep fs[i] = ⟨fs[i].name, fs[i].fb, (fs[i].q.1, L, L), fs[i].data.take L, L⟩ := by simp only [crashE, hL]
        rw [this]
        exact ⟨k4, o4, zs_take ok.zs L, by show L ≤ (fs[i].data.take L).length; rw [List.length_take]; omega, ok.reg⟩
      · intro y hy; left; rw [hgi]; exact hy
    · rw [hUu]; exact b4
    · exact (F0.app GG).mono (by intro y hy hl; simp only [List.mem_filter, decide_eq_true_eq]; exact ⟨hy, hl⟩)
    · intro y hy
      simp only [List.mem_filter, decide_eq_true_eq, List.mem_append, List.mem_cons, List.not_mem_nil, or_false] at hy
      rcases hy.1 with hh | hh | hh | hh
      · exact hS0 y hh
      · omega
      · subst hh; exact hDb
      · subst hh; exact ok.reg.1

theorem crash14 (h : Dk w D b A fuse dead) {keep : Int} (hk : -9223372036854775808 ≤ keep ∧ keep < 9223372036854775808) :
    ∃ w', callF Try.prog 14 #[.pointer (some ⟨b, 0, none⟩), .int .i64 keep] w = some (.tuple #[], w') ∧ Dk w' D b (crashA keep A) (-1) false ∧ Chg D w w' D := by
  obtain ⟨r, fs, h1, h2, h3, h4, h5⟩ := h.ex
  have c0 : w.cell? ⟨b, 0, none⟩ = some (.map (some r)) := h2.cell 0
  obtain ⟨w1, e1, i1, f1⟩ := iter_range (P := Try.prog) Try.underlying57 h3
  have hit : ¬ D w.heap.size := fun hd => by have := h.lt _ hd; omega
  have hfs1 : Fs w1 D fs := h4.fr f1 (by simp) (fun _ => id)
  have hb1 := h2.fr f1 (by simp)
  have hus := h.used
  have hlen := h.len
  subst h1
  have hlen' : fs.length ≤ 4096 := by simpa using hlen
  obtain ⟨e, t, w2, g1, rfl, g2⟩ := loopS_rule (b := g14_l6_b (some ⟨w.heap.size, 0, none⟩) (some ⟨b, 0, none⟩) keep) (I := fun k s x => CInv w D b r w.heap.size fs fuse keep dead k x)
    (Q := fun e s x => e = .exit 0 ∧ CInv w D b r w.heap.size fs fuse keep dead fs.length x) (n := fs.length)
    (fun k s x hkl hi => by
      rcases crash_round hk h5 h.db hit (Nat.le_refl _) k x hi with ⟨h1, h2⟩ | ⟨h1, x', h2, h3⟩
      · omega
      · exact ⟨.normal, (), x', h2, .inl ⟨rfl, h3⟩⟩)
    (fun s x hi => by
      rcases crash_round hk h5 h.db hit (Nat.le_refl _) fs.length x hi with ⟨h1, h2⟩ | ⟨h1, x', h2, h3⟩
      · exact ⟨.exit 0, (), x, h2, by simp, rfl, hi⟩
      · omega)
    (Nat.zero_le _) (k := 0) (s := ()) (w := w1) ⟨⟨[], rfl, i1, by rw [fsv_nil]; exact hfs1, by rw [fsv_nil]; exact hb1, by rw [fsv_nil]; exact hus⟩, [], f1, by simp⟩
  obtain ⟨⟨vis, hvl, j1, j2, j3, j4⟩, S, F, hS⟩ := g2
  have hall : fsv keep fs vis = fs.map (crashE keep) := fsv_all (by
    have := j1.all (by rw [hvl]; simp [keysOf])
    simpa [keysOf] using this)
  rw [hall] at j2 j3 j4
  have hcr : (fs.map (crashE keep)).map FE.ab = crashA keep (fs.map FE.ab) := by simp [crashA, FE.ab, crashE, crashV]
  have hkk : keysOf (fs.map (crashE keep)) = keysOf fs := by rw [← hall]; exact fsv_keys
  have t1 : st1 w2 ⟨b, 2, none⟩ (.bool false) = some (w2.setCell ⟨b, 2, none⟩ (.bool false)) := j3.st1 (by simp) rfl
  have q1 : Fr [b] w2 (w2.setCell ⟨b, 2, none⟩ (.bool false)) := Fr.setCell
  have b1 := j3.set 2 (.bool false)
  simp only [List.set_cons_succ, List.set_cons_zero] at b1
  generalize w2.setCell ⟨b, 2, none⟩ (.bool false) = w3 at t1 q1 b1
  have t2 : st1 w3 ⟨b, 1, none⟩ (.int .i64 (-1)) = some (w3.setCell ⟨b, 1, none⟩ (.int .i64 (-1))) := b1.st1 (by simp) rfl
  have q2 : Fr [b] w3 (w3.setCell ⟨b, 1, none⟩ (.int .i64 (-1))) := Fr.setCell
  have b2 := b1.set 1 (.int .i64 (-1))
  simp only [List.set_cons_succ, List.set_cons_zero] at b2
  generalize w3.setCell ⟨b, 1, none⟩ (.int .i64 (-1)) = w4 at t2 q2 b2
  have Q2 : Fr [b] w2 w4 := (Fr.mono (Fr.app q1 q2) (by have z0_ := Fr.size q1; have z1_ := Fr.size q2; intro y_ hy_ hl_; grind [blkOf]))
  have rb : r ≠ b := h3.ne_blk h2
  refine ⟨w4, g14_call ?_, ⟨⟨r, fs.map (crashE keep), hcr.symm, by rw [← hcr]; exact b2, by rw [hkk]; exact j1.map.fr Q2 (by simpa using rb), ?_, h5⟩, h.db, ?_, by decide, by rw [← hcr]; exact j4, by simpa [crashA] using hlen'⟩, ⟨⟨S ++ [b], F.app Q2, ?_⟩, fun _ => id, fun y hy => .inl hy⟩⟩
  · unfold g14
    simp only [c0, e1, g14_l6_x0_of g1, obs, asP_pointer, asB_bool, asI_int, asS_string, asSl_slice, asM_map, asTup0, asTup1, asTup2, asTup3, asTup4, asTup5, asTup6, asTup7, asTup8, asTup9, asAgg2, asAgg3, asAgg4, asAgg5, asAgg6, asAgg7, asAgg8, asAgg9, asAgg12, getD0, getD1, getD2, getD3, getD4, getD5, getD6, getD7, getD8, getD9, getD10, getD11, getD12, getD13, getD14, getD15, getD16, getD17, getD18, getD19, Bool.not_true, Bool.not_false, Bool.false_eq_true, Bool.true_eq_false, ↓reduceIte, decide_true, decide_false, Option.isNone_some, Option.isNone_none, Option.isSome_some, Option.isSome_none, beq_self_eq_true, bne_self_eq_false, Bool.and_true, Bool.true_and, Bool.and_false, Bool.false_and, not_true_eq_false, not_false_eq_true]
    unfold g14_l6_x0
    simp only [addr_add, Nat.zero_add, t1, t2, obs, asP_pointer, asB_bool, asI_int, asS_string, asSl_slice, asM_map, asTup0, asTup1, asTup2, asTup3, asTup4, asTup5, asTup6, asTup7, asTup8, asTup9, asAgg2, asAgg3, asAgg4, asAgg5, asAgg6, asAgg7, asAgg8, asAgg9, asAgg12, getD0, getD1, getD2, getD3, getD4, getD5, getD6, getD7, getD8, getD9, getD10, getD11, getD12, getD13, getD14, getD15, getD16, getD17, getD18, getD19, Bool.not_true, Bool.not_false, Bool.false_eq_true, Bool.true_eq_false, ↓reduceIte, decide_true, decide_false, Option.isNone_some, Option.isNone_none, Option.isSome_some, Option.isSome_none, beq_self_eq_true, bne_self_eq_false, Bool.and_true, Bool.true_and, Bool.and_false, Bool.false_and, not_true_eq_false, not_false_eq_true]
  · exact j2.fr Q2 (by intro y hy j hj; simp at hy; subst hy; exact ⟨j3.ne (j2.ok j hj).blk (by decide), j3.notin (j2.ok j hj).own (by decide)⟩) (fun _ => id)
  · intro y hy; have := h.lt y hy; have := F.size; have := Q2.size; omega
  · intro y hy
    rw [List.mem_append] at hy
    rcases hy with hh | hh
    · exact hS y hh
    · simp at hh; subst hh; exact h.db
end
end Go.Proofs.Ytkmidlhnlnolnaa
