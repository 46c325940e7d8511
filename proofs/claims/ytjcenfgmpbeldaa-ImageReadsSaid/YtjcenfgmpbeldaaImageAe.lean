/-
  ImageAe: lemmas on what Go functions of this seat come to (for whatever arguments, as each says). No condition but those that stand in each lemma.
-/
import Derived.Test.YtjcenfgmpbeldaaImageP
import Derived.Test.YtjcenfgmpbeldaaImageT
import Derived.Test.YtjcenfgmpbeldaaImageSo
import Derived.Test.YtjcenfgmpbeldaaLb10
import Derived.Test.YtjcenfgmpbeldaaImageV1
namespace Go.Proofs.Ytjcenfgmpbeldaa
open Go Go.Ev
set_option maxRecDepth 100000
set_option linter.unusedVariables false
set_option linter.unusedSimpArgs false

section
variable {w : World} {D : Nat → Prop} {b c : Nat} {nq pq : Sh} {ns : List NV} {es : List PE} {next count : Int}

theorem Raw.same {k : Nat} (h : Raw w D b c nq pq ns es next count) (hk : k < es.length) : Raw w D b c nq pq ns (es.set k es[k]) next count := by
  rw [List.set_getElem_self]; exact h

end
end Go.Proofs.Ytjcenfgmpbeldaa

namespace Go.Proofs.Ytjcenfgmpbeldaa
open Go Go.Ev
set_option maxRecDepth 100000
set_option linter.unusedVariables false
set_option linter.unusedSimpArgs false

def without (l : List Int) (m : Int) : List Int := l.filter (fun x => !(x == m))
end Go.Proofs.Ytjcenfgmpbeldaa

namespace Go.Proofs.Ytjcenfgmpbeldaa
open Go Go.Ev
set_option maxRecDepth 100000
set_option linter.unusedVariables false
set_option linter.unusedSimpArgs false

section
variable {w : World} {D : Nat → Prop} {b c : Nat} {nq pq : Sh} {ns : List NV} {es : List PE} {next count : Int}

end
end Go.Proofs.Ytjcenfgmpbeldaa

namespace Go.Proofs.Ytjcenfgmpbeldaa
open Go Go.Ev
set_option maxRecDepth 100000
set_option linter.unusedVariables false
set_option linter.unusedSimpArgs false

/-- what an image tells -/
structure IM where
  ns : List NV
  vs : List PV
  next : Int
  count : Int

/-- an image in memory that tells m -/
def Img (w : World) (D : Nat → Prop) (b : Nat) (m : IM) : Prop := ∃ c nq pq es, Raw w D b c nq pq m.ns es m.next m.count ∧ es.map (·.v) = m.vs
theorem Img.fr {w w' : World} {D : Nat → Prop} {b : Nat} {m : IM} {S : List Nat} (h : Img w D b m) (hf : Fr S w w') (hS : ∀ y ∈ S, y < w.heap.size → ¬ D y) : Img w' D b m := by
  obtain ⟨c, nq, pq, es, h, hv⟩ := h; exact ⟨c, nq, pq, es, h.fr hf hS, hv⟩
theorem Img.lt {w : World} {D : Nat → Prop} {b : Nat} {m : IM} (h : Img w D b m) : ∀ y, D y → y < w.heap.size := by obtain ⟨c, nq, pq, es, h, hv⟩ := h; exact h.lt
/-- what Apply needs of an image -/
structure IOk (m : IM) : Prop where
  names : ∀ v ∈ m.vs, Names m.ns v.isr ∧ Names m.ns v.tgt
  nlen : m.ns.length ≤ 1000
  vlen : m.vs.length ≤ 1000
  next : 0 ≤ m.next ∧ m.next ≤ 1001

section
variable {w : World} {D : Nat → Prop} {b : Nat} {m : IM}

end
end Go.Proofs.Ytjcenfgmpbeldaa

namespace Go.Proofs.Ytjcenfgmpbeldaa
open Go Go.Ev
set_option maxRecDepth 100000
set_option linter.unusedVariables false
set_option linter.unusedSimpArgs false

end Go.Proofs.Ytjcenfgmpbeldaa

namespace Go.Proofs.Ytjcenfgmpbeldaa
open Go Go.Ev
set_option linter.unusedVariables false
set_option linter.unusedSimpArgs false

/-- a partition as it may be, but for its leader -/
structure VP (ns : List NV) (te tv : Int) (v : PV) : Prop where
  si : sortedI ns.length v.isr
  sr : sortedI ns.length v.rep
  st : v.tgt = [] ∨ sortedI ns.length v.tgt
  sub : ∀ n ∈ v.isr, n ∈ v.rep ∨ n ∈ v.tgt
  ep : 0 ≤ v.ep ∧ v.ep ≤ te
  vr : 0 ≤ v.vr ∧ v.vr ≤ tv
structure VI (ns : List NV) (te tv : Int) (v : PV) : Prop extends VP ns te tv v where
  l0 : -1 ≤ v.ld
  l1 : 0 ≤ v.ld → v.ld ∈ v.isr ∧ aliveB ns v.ld = true
  l2 : v.ld < 0 → ∀ n ∈ v.isr, aliveB ns n = false
/-- what may become of a partition by one command -/
structure VR (v v' : PV) : Prop where
  ep : v.ep ≤ v'.ep
  vr : v.vr ≤ v'.vr
  ld : v'.ld ≠ v.ld → v'.ep ≠ v.ep
theorem VR.refl (v : PV) : VR v v := ⟨Int.le_refl _, Int.le_refl _, fun h => absurd rfl h⟩

section
variable {ns ns' : List NV} {te tv : Int} {v : PV}

theorem VP.mono {te' tv' : Int} (h : VP ns te tv v) (h1 : te ≤ te') (h2 : tv ≤ tv') : VP ns te' tv' v :=
  ⟨h.si, h.sr, h.st, h.sub, ⟨h.ep.1, by have := h.ep.2; omega⟩, ⟨h.vr.1, by have := h.vr.2; omega⟩⟩
theorem VI.mono {te' tv' : Int} (h : VI ns te tv v) (h1 : te ≤ te') (h2 : tv ≤ tv') : VI ns te' tv' v := ⟨h.toVP.mono h1 h2, h.l0, h.l1, h.l2⟩
theorem VP.len (h : VP ns te tv v) (hl : ns'.length = ns.length) : VP ns' te tv v := ⟨by rw [hl]; exact h.si, by rw [hl]; exact h.sr, by rw [hl]; exact h.st, h.sub, h.ep, h.vr⟩
theorem VP.names (h : VP ns te tv v) : Names ns v.isr ∧ Names ns v.tgt :=
  ⟨sortedI_names h.si rfl, by rcases h.st with ht | ht; rw [ht]; intro x hx; cases hx; exact sortedI_names ht rfl⟩

end

/-- an image as it may be behind t commands -/
structure MI (t : Int) (m : IM) : Prop where
  nlen : 1 ≤ m.ns.length ∧ m.ns.length ≤ 5
  vlen : 1 ≤ m.vs.length ∧ m.vs.length ≤ 6
  next : 1 ≤ m.next ∧ m.next ≤ 1001
  vs : ∀ v ∈ m.vs, VI m.ns t (2 * t) v

theorem MI.ok {t : Int} {m : IM} (h : MI t m) : IOk m := ⟨fun v hv => (h.vs v hv).names, by have := h.nlen; omega, by have := h.vlen; omega, by have := h.next; omega⟩

structure MR (m m' : IM) : Prop where
  nl : m'.ns.length = m.ns.length
  vl : m'.vs.length = m.vs.length
  each : ∀ k (h : k < m.vs.length) (h' : k < m'.vs.length), VR m.vs[k] m'.vs[k]

theorem MR.same {m : IM} {c : Int} : MR m { m with count := c } := ⟨rfl, rfl, fun k _ _ => VR.refl _⟩

end Go.Proofs.Ytjcenfgmpbeldaa

namespace Go.Proofs.Ytjcenfgmpbeldaa
open Go Go.Ev
set_option maxRecDepth 100000
set_option linter.unusedVariables false
set_option linter.unusedSimpArgs false

section
variable {w : World} {D : Nat → Prop} {b : Nat} {m : IM}

end

abbrev CT : Ty := .cons (.int .i64) (.cons (.int .i64) (.cons (.int .i64) (.cons (.int .i64) (.cons (.int .i64) (.cons (.slice (.int .i64)) .nil)))))
end Go.Proofs.Ytjcenfgmpbeldaa

namespace Go.Proofs.Ytjcenfgmpbeldaa
open Go Go.Ev
set_option maxRecDepth 100000
set_option linter.unusedVariables false
set_option linter.unusedSimpArgs false

/-- SameInts, of any two lists -/
theorem sameInts19 {w : World} {u v : Sh} {xs ys : List Int} (hu : SlI .i64 w u xs) (hv : SlI .i64 w v ys) (hl : xs.length ≤ 4611686018427387904) :
    ∃ w', callF Try.prog 19 #[.slice u.1 u.2.1 u.2.2, .slice v.1 v.2.1 v.2.2] w = some (.bool (decide (xs = ys)), w') ∧ Fr [] w w' := by
  have h1 := hu.1
  have h2 := hv.1
  by_cases hn : xs.length = ys.length
  case neg =>
    have k0 : ((u.2.1 : Int) != (v.2.1 : Int)) = true := by simp; omega
    have kd : decide (xs = ys) = false := by
      have : ¬ xs = ys := fun e => hn (by rw [e])
      simp [this]
    refine ⟨w, g19_call ?_, Fr.refl _ _⟩
    rw [kd]
    unfold g19
    simp only [k0, obs, asP_pointer, asB_bool, asI_int, asS_string, asSl_slice, asM_map, asTup0, asTup1, asTup2, asTup3, asTup4, asTup5, asTup6, asTup7, asTup8, asTup9, asAgg2, asAgg3, asAgg4, asAgg5, asAgg6, asAgg7, asAgg8, asAgg9, asAgg12, getD0, getD1, getD2, getD3, getD4, getD5, getD6, getD7, getD8, getD9, getD10, getD11, getD12, getD13, getD14, getD15, getD16, getD17, getD18, getD19, Bool.not_true, Bool.not_false, Bool.false_eq_true, Bool.true_eq_false, ↓reduceIte, decide_true, decide_false, Option.isNone_some, Option.isNone_none, Option.isSome_some, Option.isSome_none, beq_self_eq_true, bne_self_eq_false, Bool.and_true, Bool.true_and, Bool.and_false, Bool.false_and, not_true_eq_false, not_false_eq_true]
  have k0 : ((u.2.1 : Int) != (v.2.1 : Int)) = false := by simp; omega
  obtain ⟨e, t, w', g1, hF, hQ⟩ := loopS_rule (b := g19_l3_b u v) (n := xs.length) (I := fun k s x => s = (false, (k : Int)) ∧ Fr [] w x ∧ xs.take k = ys.take k)
    (Q := fun e s x => Fr [] w x ∧ (e = .ret ∧ s.1 = false ∧ xs ≠ ys ∨ e = .exit 0 ∧ xs = ys))
    (fun k s x hk ⟨hs, hF, ht⟩ => by
      subst hs
      have fd := Fr.drew [] x
      have F1 : Fr [] w x.drew := (Fr.mono (Fr.app hF fd) (by have z0_ := Fr.size hF; have z1_ := Fr.size fd; intro y_ hy_ hl_; grind [blkOf]))
      obtain ⟨a, i1, c1⟩ := (hu.fr3 F1 (by simp)).get hk
      obtain ⟨a', i2, c2⟩ := (hv.fr3 F1 (by simp)).get (i := k) (by omega)
      have k1 : decide ((k : Int) < (u.2.1 : Int)) = true := by simp; omega
      have kw := wrap_succ (n := k) (by omega)
      by_cases he : xs[k] = ys[k]
      · have k2 : (xs[k] != ys[k]) = false := by simp [he]
        refine ⟨.normal, (false, ((k + 1 : Nat) : Int)), x.drew, ?_, .inl ⟨rfl, rfl, F1, ?_⟩⟩
        · unfold g19_l3_b
          simp only [k1, i1, c1, i2, c2, k2, kw, obs, asP_pointer, asB_bool, asI_int, asS_string, asSl_slice, asM_map, asTup0, asTup1, asTup2, asTup3, asTup4, asTup5, asTup6, asTup7, asTup8, asTup9, asAgg2, asAgg3, asAgg4, asAgg5, asAgg6, asAgg7, asAgg8, asAgg9, asAgg12, getD0, getD1, getD2, getD3, getD4, getD5, getD6, getD7, getD8, getD9, getD10, getD11, getD12, getD13, getD14, getD15, getD16, getD17, getD18, getD19, Bool.not_true, Bool.not_false, Bool.false_eq_true, Bool.true_eq_false, ↓reduceIte, decide_true, decide_false, Option.isNone_some, Option.isNone_none, Option.isSome_some, Option.isSome_none, beq_self_eq_true, bne_self_eq_false, Bool.and_true, Bool.true_and, Bool.and_false, Bool.false_and, not_true_eq_false, not_false_eq_true]
        · rw [List.take_succ_eq_append_getElem hk, List.take_succ_eq_append_getElem (by omega), ht, he]
      · have k2 : (xs[k] != ys[k]) = true := by simp [he]
        refine ⟨.ret, (false, (k : Int)), x.drew, ?_, .inr ⟨by simp, F1, .inl ⟨rfl, rfl, fun e => he ?_⟩⟩⟩
        · unfold g19_l3_b
          simp only [k1, i1, c1, i2, c2, k2, obs, asP_pointer, asB_bool, asI_int, asS_string, asSl_slice, asM_map, asTup0, asTup1, asTup2, asTup3, asTup4, asTup5, asTup6, asTup7, asTup8, asTup9, asAgg2, asAgg3, asAgg4, asAgg5, asAgg6, asAgg7, asAgg8, asAgg9, asAgg12, getD0, getD1, getD2, getD3, getD4, getD5, getD6, getD7, getD8, getD9, getD10, getD11, getD12, getD13, getD14, getD15, getD16, getD17, getD18, getD19, Bool.not_true, Bool.not_false, Bool.false_eq_true, Bool.true_eq_false, ↓reduceIte, decide_true, decide_false, Option.isNone_some, Option.isNone_none, Option.isSome_some, Option.isSome_none, beq_self_eq_true, bne_self_eq_false, Bool.and_true, Bool.true_and, Bool.and_false, Bool.false_and, not_true_eq_false, not_false_eq_true]
        · have := congrArg (fun l => l[k]?) e
          simp only [List.getElem?_eq_getElem hk, List.getElem?_eq_getElem (show k < ys.length by omega), Option.some.injEq] at this
          exact this)
    (fun s x ⟨hs, hF, ht⟩ => by
      subst hs
      refine ⟨.exit 0, (false, (xs.length : Int)), x, ?_, by simp, hF, .inr ⟨rfl, ?_⟩⟩
      · have k1 : decide ((xs.length : Int) < (u.2.1 : Int)) = false := by simp; omega
        unfold g19_l3_b
        simp only [k1, Bool.false_eq_true, if_false]
      · rw [List.take_length] at ht
        rw [ht, hn, List.take_length]) (k := 0) (s := (false, 0)) (w := w) (Nat.zero_le _) ⟨rfl, Fr.refl _ _, by simp⟩
  rcases hQ with ⟨rfl, hs, hne⟩ | ⟨rfl, he⟩
  · refine ⟨w', g19_call ?_, hF⟩
    have kd : decide (xs = ys) = false := by simp [hne]
    rw [kd]
    unfold g19
    simp only [k0, obs, asP_pointer, asB_bool, asI_int, asS_string, asSl_slice, asM_map, asTup0, asTup1, asTup2, asTup3, asTup4, asTup5, asTup6, asTup7, asTup8, asTup9, asAgg2, asAgg3, asAgg4, asAgg5, asAgg6, asAgg7, asAgg8, asAgg9, asAgg12, getD0, getD1, getD2, getD3, getD4, getD5, getD6, getD7, getD8, getD9, getD10, getD11, getD12, getD13, getD14, getD15, getD16, getD17, getD18, getD19, Bool.not_true, Bool.not_false, Bool.false_eq_true, Bool.true_eq_false, ↓reduceIte, decide_true, decide_false, Option.isNone_some, Option.isNone_none, Option.isSome_some, Option.isSome_none, beq_self_eq_true, bne_self_eq_false, Bool.and_true, Bool.true_and, Bool.and_false, Bool.false_and, not_true_eq_false, not_false_eq_true]
    rw [g19_l3_ret_of g1, g19_l3_ret, hs]
  · refine ⟨w', g19_call ?_, hF⟩
    have kd : decide (xs = ys) = true := by simp [he]
    rw [kd]
    unfold g19
    simp only [k0, obs, asP_pointer, asB_bool, asI_int, asS_string, asSl_slice, asM_map, asTup0, asTup1, asTup2, asTup3, asTup4, asTup5, asTup6, asTup7, asTup8, asTup9, asAgg2, asAgg3, asAgg4, asAgg5, asAgg6, asAgg7, asAgg8, asAgg9, asAgg12, getD0, getD1, getD2, getD3, getD4, getD5, getD6, getD7, getD8, getD9, getD10, getD11, getD12, getD13, getD14, getD15, getD16, getD17, getD18, getD19, Bool.not_true, Bool.not_false, Bool.false_eq_true, Bool.true_eq_false, ↓reduceIte, decide_true, decide_false, Option.isNone_some, Option.isNone_none, Option.isSome_some, Option.isSome_none, beq_self_eq_true, bne_self_eq_false, Bool.and_true, Bool.true_and, Bool.and_false, Bool.false_and, not_true_eq_false, not_false_eq_true]
    rw [g19_l3_x0_of g1, g19_l3_x0]

end Go.Proofs.Ytjcenfgmpbeldaa
