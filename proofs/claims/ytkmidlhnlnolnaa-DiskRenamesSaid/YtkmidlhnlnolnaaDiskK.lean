/-
  DiskK: lemmas on what Go functions of this seat come to (for whatever arguments, as each says). No condition but those that stand in each lemma.
-/
import Derived.Test.YtkmidlhnlnolnaaDiskSp
import Derived.Test.YtkmidlhnlnolnaaDiskF2
import Derived.Test.YtkmidlhnlnolnaaDiskJ
namespace Go.Proofs.Ytkmidlhnlnolnaa
open Go Go.Ev
set_option maxRecDepth 100000
set_option linter.unusedVariables false
set_option linter.unusedSimpArgs false

theorem same30 {w : World} {u v : (Option Addr × Nat × Nat)} {xs : List Int} (hu : SlI .u8 w u xs) (hv : SlI .u8 w v xs) (hl : xs.length ≤ 4611686018427387904) : ∃ w', callF Try.prog 20 #[.slice u.1 u.2.1 u.2.2, .slice v.1 v.2.1 v.2.2] w = some (.bool true, w') ∧ Fr [] w w' := by
  have h1 := hu.1
  have h2 := hv.1
  obtain ⟨t, w', g1, rfl, f⟩ := loopS_countX 0 (b := g20_l3_b u v) (I := fun k s x => s = (false, (k : Int)) ∧ Fr [] w x) (n := xs.length)
    (fun k s x hk ⟨hs, f⟩ => by
      subst hs
      have fx := Fr.drew [] x
      have fd : Fr [] w x.drew := (Fr.mono (Fr.app f fx) (by have z0_ := Fr.size f; have z1_ := Fr.size fx; intro y_ hy_ hl_; grind [blkOf]))
      obtain ⟨a, i1, c1⟩ := (hu.fr3 fd (by simp)).get hk
      obtain ⟨b, i2, c2⟩ := (hv.fr3 fd (by simp)).get hk
      have k0 : decide ((k : Int) < (u.2.1 : Int)) = true := by simp; omega
      have k1 : (xs[k] != xs[k]) = false := by simp
      have kw := wrap_succ (n := k) (by omega)
      refine ⟨_, x.drew, ?_, rfl, fd⟩
      unfold g20_l3_b
      simp only [k0, i1, c1, i2, c2, k1, kw, obs, asP_pointer, asB_bool, asI_int, asS_string, asSl_slice, asM_map, asTup0, asTup1, asTup2, asTup3, asTup4, asTup5, asTup6, asTup7, asTup8, asTup9, asAgg2, asAgg3, asAgg4, asAgg5, asAgg6, asAgg7, asAgg8, asAgg9, asAgg12, getD0, getD1, getD2, getD3, getD4, getD5, getD6, getD7, getD8, getD9, getD10, getD11, getD12, getD13, getD14, getD15, getD16, getD17, getD18, getD19, Bool.not_true, Bool.not_false, Bool.false_eq_true, Bool.true_eq_false, ↓reduceIte, decide_true, decide_false, Option.isNone_some, Option.isNone_none, Option.isSome_some, Option.isSome_none, beq_self_eq_true, bne_self_eq_false, Bool.and_true, Bool.true_and, Bool.and_false, Bool.false_and, not_true_eq_false, not_false_eq_true])
    (fun s x ⟨hs, f⟩ => by
      subst hs
      unfold g20_l3_b
      have k0 : decide ((xs.length : Int) < (u.2.1 : Int)) = false := by simp; omega
      simp only [k0, Bool.false_eq_true, if_false]) (k := 0) (s := (false, 0)) (w := w) (Nat.zero_le _) ⟨rfl, Fr.refl _ _⟩
  refine ⟨w', g20_call ?_, f⟩
  unfold g20
  have k0 : ((u.2.1 : Int) != (v.2.1 : Int)) = false := by simp; omega
  simp only [k0, Bool.false_eq_true, if_false]
  rw [g20_l3_x0_of g1, g20_l3_x0]

theorem len_bulk {k : IntKind} {x : (Ty.slice (.int k)).Val} : x.2.length ≤ (Ty.slice (.int k)).bulk x := by
  have h1 : (Ty.slice (.int k)).bulk x = (x.2.map (Ty.bulk (.int k))).sum + 1 := rfl
  have : ∀ l : List Int, l.length ≤ (l.map (Ty.bulk (.int k))).sum := by
    intro l
    induction l with
    | nil => simp
    | cons a l ih =>
      have h2 : Ty.bulk (.int k) a = 1 := rfl
      simp only [List.map_cons, List.sum_cons, List.length_cons]
      omega
  have := this x.2
  omega

/-- sorting one name or none -/
theorem sort27 {w : World} {q : Option Addr × Nat × Nat} (hq : q.2.1 ≤ 1) : callF Try.prog 27 #[.slice q.1 q.2.1 q.2.2] w = some (.tuple #[], w) := by
  have hu : IntKind.u64.wrap (q.2.1 : Int) = (q.2.1 : Int) := wrap_u64 (by omega) (by omega)
  obtain ⟨n, e1⟩ := len64 w (u := (q.2.1 : Int)) (by omega) (by omega)
  have e2 : callF Try.prog 42 #[.slice q.1 q.2.1 q.2.2, .int .i64 0, .int .i64 (q.2.1 : Int)] w = some (.tuple #[], w) := by
    refine g42_call ?_
    have w1 : IntKind.i64.wrap (0 + 1) = 1 := by decide
    obtain ⟨e, t, x, g1, rfl, rfl⟩ := loopS_rule (b := g42_l1_b (q.2.1 : Int) q 0) (I := fun k s x => s = (1 : Int) ∧ x = w) (Q := fun e s x => e = .exit 0 ∧ x = w) (n := 0) (fun k s x hk _ => by omega)
      (fun s x ⟨hs, hx⟩ => by
        subst hs hx
        refine ⟨.exit 0, 1, x, ?_, by simp, rfl, rfl⟩
        unfold g42_l1_b
        have k0 : decide ((1 : Int) < (q.2.1 : Int)) = false := by simp; omega
        simp only [k0, Bool.false_eq_true, if_false]) (k := 0) (s := (1 : Int)) (w := w) (Nat.le_refl _) ⟨rfl, rfl⟩
    unfold g42
    rw [w1, g42_l1_x0_of g1, g42_l1_x0]
  have k1 : decide (IntKind.i64.wrap ((q.2.1 : Int) - 0) ≤ 12) = true := by rw [wrap_i64 (by omega) (by omega)]; simp; omega
  have e35 : callF Try.prog 35 #[.slice q.1 q.2.1 q.2.2, .int .i64 0, .int .i64 (q.2.1 : Int), .int .i64 n] w = some (.tuple #[], w) := by
    refine g35_call ?_
    obtain ⟨e, t, x, g1, rfl, rfl⟩ := loopS_rule (b := g35_l1_b q) (I := fun k s x => s = ((0 : Int), (q.2.1 : Int), n, true, true) ∧ x = w) (Q := fun e s x => e = .ret ∧ x = w) (n := 0) (fun k s x hk _ => by omega)
      (fun s x ⟨hs, hx⟩ => by
        subst hs hx
        refine ⟨.ret, ((0 : Int), (q.2.1 : Int), n, true, true), x, ?_, by simp, rfl, rfl⟩
        unfold g35_l1_b
        simp only [k1, if_true]
        simp only [e2, obs, asP_pointer, asB_bool, asI_int, asS_string, asSl_slice, asM_map, asTup0, asTup1, asTup2, asTup3, asTup4, asTup5, asTup6, asTup7, asTup8, asTup9, asAgg2, asAgg3, asAgg4, asAgg5, asAgg6, asAgg7, asAgg8, asAgg9, asAgg12, getD0, getD1, getD2, getD3, getD4, getD5, getD6, getD7, getD8, getD9, getD10, getD11, getD12, getD13, getD14, getD15, getD16, getD17, getD18, getD19, Bool.not_true, Bool.not_false, Bool.false_eq_true, Bool.true_eq_false, ↓reduceIte, decide_true, decide_false, Option.isNone_some, Option.isNone_none, Option.isSome_some, Option.isSome_none, beq_self_eq_true, bne_self_eq_false, Bool.and_true, Bool.true_and, Bool.and_false, Bool.false_and, not_true_eq_false, not_false_eq_true]) (k := 0) (s := ((0 : Int), (q.2.1 : Int), n, true, true)) (w := w) (Nat.le_refl _) ⟨rfl, rfl⟩
    unfold g35
    rw [g35_l1_ret_of g1, g35_l1_ret]
  refine g27_call ?_
  unfold g27
  rw [hu]
  simp only [e1, e35, obs, asP_pointer, asB_bool, asI_int, asS_string, asSl_slice, asM_map, asTup0, asTup1, asTup2, asTup3, asTup4, asTup5, asTup6, asTup7, asTup8, asTup9, asAgg2, asAgg3, asAgg4, asAgg5, asAgg6, asAgg7, asAgg8, asAgg9, asAgg12, getD0, getD1, getD2, getD3, getD4, getD5, getD6, getD7, getD8, getD9, getD10, getD11, getD12, getD13, getD14, getD15, getD16, getD17, getD18, getD19, Bool.not_true, Bool.not_false, Bool.false_eq_true, Bool.true_eq_false, ↓reduceIte, decide_true, decide_false, Option.isNone_some, Option.isNone_none, Option.isSome_some, Option.isSome_none, beq_self_eq_true, bne_self_eq_false, Bool.and_true, Bool.true_and, Bool.and_false, Bool.false_and, not_true_eq_false, not_false_eq_true]

section
variable {w : World} {D : Nat → Prop} {b : Nat} {fuse : Int} {dead : Bool}

theorem names18 {n : ByteArray} {v : FV} (h : Dk w D b [(n, v)] fuse dead) : ∃ q w', callF Try.prog 18 #[.pointer (some ⟨b, 0, none⟩)] w = some (.slice q.1 q.2.1 q.2.2, w') ∧ Own w' 9 1 q [.string n] ∧ Fr [] w w' := by
  have hml : maxLen = 9223372036854775807 := by decide
  obtain ⟨r, fs, h1, h2, h3, h4, h5⟩ := h.ex
  have hfl : fs.length = 1 := by have := congrArg List.length h1; simpa using this.symm
  have c0 : w.cell? ⟨b, 0, none⟩ = some (.map (some r)) := h2.cell 0
  obtain ⟨w1, e1, i1, f1⟩ := iter_range (P := Try.prog) Try.underlying57 h3
  have hne : w.heap.size ≠ r := fun e => by have := h.lt _ h5; omega
  have hkl : (keysOf fs).length = 1 := by simp [keysOf, hfl]
  have hk0 : (keysOf fs)[0]'(by omega) = (n, .pointer (some ⟨(fs[0]'(by omega)).fb, 0, none⟩)) := by
    have : (fs[0]'(by omega)).name = n := by
      have h0 : (fs.map FE.ab)[0]'(by simp; omega) = (n, v) := by simp only [← h1, List.getElem_cons_zero]
      simp only [List.getElem_map] at h0
      exact congrArg Prod.fst h0
    simp [keysOf, this]
  -- the first round
  rcases iter_next (P := Try.prog) i1 hne 0 with ⟨hh, _⟩ | ⟨_, i, hi, x1, hv, n1, i2, g1, n2⟩
  · simp at hh; omega
  have hi0 : i = 0 := by omega
  subst hi0
  rw [hk0] at n1 n2
  simp only at n1 n2
  have oz := Own.nil x1 9 1
  obtain ⟨q1, x2, a2, o2, f2, m2, l2⟩ := app_one t37 (w := x1) oz (ys := [.string n]) rfl (by intro y hy; simp at hy; subst hy; rfl) (by show 0 + 1 ≤ maxLen; omega) (by simp) 37 #[false, false]
  have a2' : callB Try.prog .append #[37, 37] 37 #[false, false] #[.slice none 0 0, .slice (some ⟨x1.heap.size, 0, none⟩) 1 1] (x1.alloc (.cells #[.string n] 9)) = some (.slice q1.1 q1.2.1 q1.2.2, x2) := a2
  have r1 : g18_l6_b (some ⟨w.heap.size, 0, none⟩) (none, 0, 0) w1 = some (.normal, (q1.1, q1.2.1, q1.2.2), x2) := by
    unfold g18_l6_b
    simp only [n1, asNext_t, onNext_s, n2, a2', obs, asP_pointer, asB_bool, asI_int, asS_string, asSl_slice, asM_map, asTup0, asTup1, asTup2, asTup3, asTup4, asTup5, asTup6, asTup7, asTup8, asTup9, asAgg2, asAgg3, asAgg4, asAgg5, asAgg6, asAgg7, asAgg8, asAgg9, asAgg12, getD0, getD1, getD2, getD3, getD4, getD5, getD6, getD7, getD8, getD9, getD10, getD11, getD12, getD13, getD14, getD15, getD16, getD17, getD18, getD19, Bool.not_true, Bool.not_false, Bool.false_eq_true, Bool.true_eq_false, ↓reduceIte, decide_true, decide_false, Option.isNone_some, Option.isNone_none, Option.isSome_some, Option.isSome_none, beq_self_eq_true, bne_self_eq_false, Bool.and_true, Bool.true_and, Bool.and_false, Bool.false_and, not_true_eq_false, not_false_eq_true]
  have f2' : Fr [] x1 x2 := by simpa [blkOf] using f2
  have i3 := i2.fr f2' (by simp) (by simp)
  rcases iter_next (P := Try.prog) i3 hne 0 with ⟨_, n3⟩ | ⟨hh, _⟩
  case inr => simp at hh; omega
  have r2 : g18_l6_b (some ⟨w.heap.size, 0, none⟩) (q1.1, q1.2.1, q1.2.2) x2 = some (.exit 0, (q1.1, q1.2.1, q1.2.2), x2) := by
    unfold g18_l6_b
    simp only [n3, asNext_f, onNext_n, obs, asP_pointer, asB_bool, asI_int, asS_string, asSl_slice, asM_map, asTup0, asTup1, asTup2, asTup3, asTup4, asTup5, asTup6, asTup7, asTup8, asTup9, asAgg2, asAgg3, asAgg4, asAgg5, asAgg6, asAgg7, asAgg8, asAgg9, asAgg12, getD0, getD1, getD2, getD3, getD4, getD5, getD6, getD7, getD8, getD9, getD10, getD11, getD12, getD13, getD14, getD15, getD16, getD17, getD18, getD19, Bool.not_true, Bool.not_false, Bool.false_eq_true, Bool.true_eq_false, ↓reduceIte, decide_true, decide_false, Option.isNone_some, Option.isNone_none, Option.isSome_some, Option.isSome_none, beq_self_eq_true, bne_self_eq_false, Bool.and_true, Bool.true_and, Bool.and_false, Bool.false_and, not_true_eq_false, not_false_eq_true]
  obtain ⟨t, x3, g3, rfl, rfl⟩ := loopS_countX 0 (b := g18_l6_b (some ⟨w.heap.size, 0, none⟩)) (n := 1) (I := fun k s x => if k = 0 then s = (none, 0, 0) ∧ x = w1 else s = (q1.1, q1.2.1, q1.2.2) ∧ x = x2)
    (fun k s x hk hI => by
      have : k = 0 := by omega
      subst this
      obtain ⟨rfl, rfl⟩ := hI
      exact ⟨_, _, r1, by simp⟩)
    (fun s x hI => by
      obtain ⟨rfl, rfl⟩ := hI
      exact r2) (k := 0) (s := (none, 0, 0)) (w := w1) (by omega) ⟨rfl, rfl⟩
  have es := sort27 (w := x3) (q := q1) (by have : q1.2.1 = 0 + 1 := l2; omega)
  refine ⟨q1, x3, g18_call ?_, by simpa using o2, ((Fr.mono (Fr.app (Fr.app f1 g1) f2') (by have z0_ := Fr.size f1; have z1_ := Fr.size g1; have z2_ := Fr.size f2'; intro y_ hy_ hl_; grind [blkOf])))⟩
  unfold g18
  simp only [c0, e1, obs, asP_pointer, asB_bool, asI_int, asS_string, asSl_slice, asM_map, asTup0, asTup1, asTup2, asTup3, asTup4, asTup5, asTup6, asTup7, asTup8, asTup9, asAgg2, asAgg3, asAgg4, asAgg5, asAgg6, asAgg7, asAgg8, asAgg9, asAgg12, getD0, getD1, getD2, getD3, getD4, getD5, getD6, getD7, getD8, getD9, getD10, getD11, getD12, getD13, getD14, getD15, getD16, getD17, getD18, getD19, Bool.not_true, Bool.not_false, Bool.false_eq_true, Bool.true_eq_false, ↓reduceIte, decide_true, decide_false, Option.isNone_some, Option.isNone_none, Option.isSome_some, Option.isSome_none, beq_self_eq_true, bne_self_eq_false, Bool.and_true, Bool.true_and, Bool.and_false, Bool.false_and, not_true_eq_false, not_false_eq_true]
  rw [g18_l6_x0_of g3]
  unfold g18_l6_x0
  simp only [es, obs, asP_pointer, asB_bool, asI_int, asS_string, asSl_slice, asM_map, asTup0, asTup1, asTup2, asTup3, asTup4, asTup5, asTup6, asTup7, asTup8, asTup9, asAgg2, asAgg3, asAgg4, asAgg5, asAgg6, asAgg7, asAgg8, asAgg9, asAgg12, getD0, getD1, getD2, getD3, getD4, getD5, getD6, getD7, getD8, getD9, getD10, getD11, getD12, getD13, getD14, getD15, getD16, getD17, getD18, getD19, Bool.not_true, Bool.not_false, Bool.false_eq_true, Bool.true_eq_false, ↓reduceIte, decide_true, decide_false, Option.isNone_some, Option.isNone_none, Option.isSome_some, Option.isSome_none, beq_self_eq_true, bne_self_eq_false, Bool.and_true, Bool.true_and, Bool.and_false, Bool.false_and, not_true_eq_false, not_false_eq_true]
end
end Go.Proofs.Ytkmidlhnlnolnaa
