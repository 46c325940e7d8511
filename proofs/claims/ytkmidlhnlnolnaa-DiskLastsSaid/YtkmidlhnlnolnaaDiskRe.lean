/-
  DiskRe: lemmas on what Go functions of this seat come to (for whatever arguments, as each says). No condition but those that stand in each lemma.
-/
import Derived.Test.YtkmidlhnlnolnaaDiskRd
namespace Go.Proofs.Ytkmidlhnlnolnaa
open Go Go.Ev
set_option maxRecDepth 100000
set_option linter.unusedVariables false
set_option linter.unusedSimpArgs false

theorem same30 {w : World} {u v : (Option Addr × Nat × Nat)} {xs : List Int} (hu : SlI .u8 w u xs) (hv : SlI .u8 w v xs) (hl : xs.length ≤ 4611686018427387904) : ∃ w', callF Try.prog 20 #[.slice u.1 u.2.1 u.2.2, .slice v.1 v.2.1 v.2.2] w = some (.bool true, w') ∧ Fr [] w w' := by
  have h1 := hu.1
  have h2 := hv.1
  obtain ⟨t, w', g1, rfl, f⟩ := loopS_countX 0 (b := g20_l3_b u v) (I := fun k s x => s = (false, (k : Int)) ∧ Fr [] w x) (n := xs.length)
    (fun k s x hk ⟨hs, f⟩ => by
      subst hs
      have fx := Fr.drew [] x
      have fd : Fr [] w x.drew := (Fr.mono (Fr.app f fx) (by have z0_ := Fr.size f; have z1_ := Fr.size fx; intro y_ hy_ hl_; grind [blkOf]))
      obtain ⟨a, i1, c1⟩ := (hu.fr3 fd (by simp)).get hk
      obtain ⟨b, i2, c2⟩ := (hv.fr3 fd (by simp)).get hk
      have k0 : decide ((k : Int) < (u.2.1 : Int)) = true := by simp; omega
      have k1 : (xs[k] != xs[k]) = false := by simp
      have kw := wrap_succ (n := k) (by omega)
      refine ⟨_, x.drew, ?_, rfl, fd⟩
      unfold g20_l3_b
      simp only [k0, i1, c1, i2, c2, k1, kw, obs, asP_pointer, asB_bool, asI_int, asS_string, asSl_slice, asM_map, asTup0, asTup1, asTup2, asTup3, asTup4, asTup5, asTup6, asTup7, asTup8, asTup9, asAgg2, asAgg3, asAgg4, asAgg5, asAgg6, asAgg7, asAgg8, asAgg9, asAgg12, getD0, getD1, getD2, getD3, getD4, getD5, getD6, getD7, getD8, getD9, getD10, getD11, getD12, getD13, getD14, getD15, getD16, getD17, getD18, getD19, Bool.not_true, Bool.not_false, Bool.false_eq_true, Bool.true_eq_false, ↓reduceIte, decide_true, decide_false, Option.isNone_some, Option.isNone_none, Option.isSome_some, Option.isSome_none, beq_self_eq_true, bne_self_eq_false, Bool.and_true, Bool.true_and, Bool.and_false, Bool.false_and, not_true_eq_false, not_false_eq_true])
    (fun s x ⟨hs, f⟩ => by
      subst hs
      unfold g20_l3_b
      have k0 : decide ((xs.length : Int) < (u.2.1 : Int)) = false := by simp; omega
      simp only [k0, Bool.false_eq_true, if_false]) (k := 0) (s := (false, 0)) (w := w) (Nat.zero_le _) ⟨rfl, Fr.refl _ _⟩
  refine ⟨w', g20_call ?_, f⟩
  unfold g20
  have k0 : ((u.2.1 : Int) != (v.2.1 : Int)) = false := by simp; omega
  simp only [k0, Bool.false_eq_true, if_false]
  rw [g20_l3_x0_of g1, g20_l3_x0]

theorem len_bulk {k : IntKind} {x : (Ty.slice (.int k)).Val} : x.2.length ≤ (Ty.slice (.int k)).bulk x := by
  have h1 : (Ty.slice (.int k)).bulk x = (x.2.map (Ty.bulk (.int k))).sum + 1 := rfl
  have : ∀ l : List Int, l.length ≤ (l.map (Ty.bulk (.int k))).sum := by
    intro l
    induction l with
    | nil => simp
    | cons a l ih =>
      have h2 : Ty.bulk (.int k) a = 1 := rfl
      simp only [List.map_cons, List.sum_cons, List.length_cons]
      omega
  have := this x.2
  omega



/-! ## the same calls on the same files, in whatever order they stand -/
section
variable {A B : List (ByteArray × FV)}
theorem sync_perm (h : kone A) (p : A.Perm B) (dead : Bool) (n : ByteArray) : (syncA A dead n).1 = (syncA B dead n).1 ∧ (syncA A dead n).2.Perm (syncA B dead n).2 := by
  unfold syncA
  rw [kget_perm h p n]
  split
  · exact ⟨rfl, p⟩
  · split
    · exact ⟨rfl, p⟩
    · exact ⟨rfl, kups_perm h p n _⟩
theorem cut_perm (h : kone A) (p : A.Perm B) (dead : Bool) (n : ByteArray) (m : Int) : (cutA A dead n m).1 = (cutA B dead n m).1 ∧ (cutA A dead n m).2.Perm (cutA B dead n m).2 := by
  unfold cutA
  rw [kget_perm h p n]
  split
  · exact ⟨rfl, p⟩
  · split
    · exact ⟨rfl, p⟩
    · split
      · exact ⟨rfl, p⟩
      · exact ⟨rfl, kups_perm h p n _⟩
theorem remove_perm (h : kone A) (p : A.Perm B) (dead : Bool) (n : ByteArray) : (removeA A dead n).1 = (removeA B dead n).1 ∧ (removeA A dead n).2.Perm (removeA B dead n).2 := by
  unfold removeA
  rw [kget_perm h p n]
  split
  · exact ⟨rfl, p⟩
  · split
    · exact ⟨rfl, p⟩
    · exact ⟨rfl, kdel_perm h p n⟩
theorem rename_perm (h : kone A) (p : A.Perm B) (dead : Bool) (n t : ByteArray) : (renameA A dead n t).1 = (renameA B dead n t).1 ∧ (renameA A dead n t).2.Perm (renameA B dead n t).2 := by
  unfold renameA
  rw [kget_perm h p n]
  split
  · exact ⟨rfl, p⟩
  · split
    · exact ⟨rfl, p⟩
    · split
      · exact ⟨rfl, p⟩
      · split
        · exact ⟨rfl, p⟩
        · exact ⟨rfl, kups_perm (kone_del h) (kdel_perm h p n) t _⟩
theorem app_perm (h : kone A) (p : A.Perm B) (fuse : Int) (dead : Bool) (n : ByteArray) (bs : List Int) : (appA A fuse dead n bs).1 = (appA B fuse dead n bs).1 ∧ (appA A fuse dead n bs).2.1.Perm (appA B fuse dead n bs).2.1 ∧ (appA A fuse dead n bs).2.2 = (appA B fuse dead n bs).2.2 := by
  unfold appA
  rw [kget_perm h p n, used_perm p, p.length_eq]
  split
  · exact ⟨rfl, p, rfl⟩
  · split
    · exact ⟨rfl, p, rfl⟩
    · split
      · exact ⟨rfl, p, rfl⟩
      · exact ⟨rfl, kups_perm h p n _, rfl⟩
theorem crash_perm (p : A.Perm B) (keep : Int) : (crashA keep A).Perm (crashA keep B) := p.map _
end

theorem Dk.kone {w : World} {D : Nat → Prop} {b : Nat} {A : List (ByteArray × FV)} {fuse : Int} {dead : Bool} (h : Dk w D b A fuse dead) : kone A := by
  obtain ⟨r, fs, h1, h2, h3, h4, h5⟩ := h.ex
  unfold Go.Ev.kone
  rw [h1]
  rw [List.Nodup, List.pairwise_iff_getElem]
  intro i j hi hj hij
  simp only [List.length_map] at hi hj
  simp only [List.getElem_map, FE.ab]
  exact (h4.ap i j hi hj (by omega)).2.1
theorem Dk.syn {w : World} {D : Nat → Prop} {b : Nat} {A : List (ByteArray × FV)} {fuse : Int} {dead : Bool} (h : Dk w D b A fuse dead) : ∀ p ∈ A, p.2.2 ≤ p.2.1.length := by
  obtain ⟨r, fs, h1, h2, h3, h4, h5⟩ := h.ex
  intro p hp
  rw [h1] at hp
  obtain ⟨f, hf, rfl⟩ := List.mem_map.mp hp
  obtain ⟨i, hi, rfl⟩ := List.getElem_of_mem hf
  exact (h4.ok i hi).syn

/-- both disks, one the document's -/
structure Sim (W x : World) (b c : Nat) (A : List (ByteArray × FV)) (fuse : Int) (dead : Bool) : Prop where
  ex : ∃ (D E : Nat → Prop) (qf : ShS) (es : List RE), Dk x D b A fuse dead ∧ RD x E c qf es fuse dead ∧ A.Perm (es.map RE.ab) ∧ (∀ y, D y → ¬ E y) ∧ (∀ y, D y → W.heap.size ≤ y) ∧ ∀ y, E y → W.heap.size ≤ y
  fr : Fr [] W x

theorem Sim.aside {W x x' : World} {b c : Nat} {A : List (ByteArray × FV)} {fuse : Int} {dead : Bool} (h : Sim W x b c A fuse dead) (f : Fr [] x x') : Sim W x' b c A fuse dead := by
  obtain ⟨⟨D, E, qf, es, h1, h2, h3, h4, h5, h6⟩, hf⟩ := h
  exact ⟨⟨D, E, qf, es, h1.fr f (by simp), h2.fr f (by simp), h3, h4, h5, h6⟩, (Fr.mono (Fr.app hf f) (by have z0_ := Fr.size hf; have z1_ := Fr.size f; intro y_ hy_ hl_; grind [blkOf]))⟩

/-- a step of both -/
theorem sim_step {W x x1 x2 : World} {b c : Nat} {A A1 : List (ByteArray × FV)} {fuse f1 fe : Int} {dead d1 de : Bool} {D D1 E : Nat → Prop} {qf : ShS} {es : List RE} (hF : Fr [] W x) (hD : Dk x D b A fuse dead) (hE : RD x E c qf es fe de) (ap : ∀ y, D y → ¬ E y) (dW : ∀ y, D y → W.heap.size ≤ y) (eW : ∀ y, E y → W.heap.size ≤ y)
    (hD1 : Dk x1 D1 b A1 f1 d1) (C1 : Chg D x x1 D1) (hE1 : RD x1 E c qf es fe de → ∃ qn es1 E1, RD x2 E1 c qn es1 f1 d1 ∧ Chg E x1 x2 E1 ∧ A1.Perm (es1.map RE.ab)) : Sim W x2 b c A1 f1 d1 := by
  obtain ⟨S, fS, hS⟩ := C1.fr
  have hE' := hE.fr fS (fun y hy _ he => ap y (hS y hy) he)
  obtain ⟨qn, es1, E1, hR, C2, hp⟩ := hE1 hE'
  obtain ⟨S2, fS2, hS2⟩ := C2.fr
  have zW := hF.size
  have z1 := fS.size
  have apx : ∀ y, D1 y → ¬ E y := fun y hy he => by
    rcases C1.new y hy with hh | hh
    · exact ap y hh he
    · have := hE.lt y he; omega
  refine ⟨⟨D1, E1, qn, es1, hD1.fr fS2 (fun y hy _ hd => apx y hd (hS2 y hy)), hR, hp, fun y hy he => ?_, fun y hy => ?_, fun y hy => ?_⟩, ?_⟩
  · rcases C2.new y he with hh | hh
    · exact apx y hy hh
    · have := hD1.lt y hy; omega
  · rcases C1.new y hy with hh | hh
    · exact dW y hh
    · omega
  · rcases C2.new y hy with hh | hh
    · exact eW y hh
    · omega
  · refine ((hF.app fS).app fS2).mono ?_
    intro y hy hlt
    simp at hy
    rcases hy with hy | hy
    · have := dW y (hS y hy); omega
    · have := eW y (hS2 y hy); omega
end Go.Proofs.Ytkmidlhnlnolnaa
