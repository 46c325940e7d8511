/-
  ImageAe: lemmas on what Go functions of this seat come to (for whatever arguments, as each says). No condition but those that stand in each lemma.
-/
import Derived.Test.YtjcenfgmpbeldaaImageAd
import Derived.Test.YtjcenfgmpbeldaaImageV1
namespace Go.Proofs.Ytjcenfgmpbeldaa
open Go Go.Ev
set_option maxRecDepth 100000
set_option linter.unusedVariables false
set_option linter.unusedSimpArgs false

/-- SameInts, of any two lists -/
theorem sameInts19 {w : World} {u v : Sh} {xs ys : List Int} (hu : SlI .i64 w u xs) (hv : SlI .i64 w v ys) (hl : xs.length ≤ 4611686018427387904) :
    ∃ w', callF Try.prog 19 #[.slice u.1 u.2.1 u.2.2, .slice v.1 v.2.1 v.2.2] w = some (.bool (decide (xs = ys)), w') ∧ Fr [] w w' := by
  have h1 := hu.1
  have h2 := hv.1
  by_cases hn : xs.length = ys.length
  case neg =>
    have k0 : ((u.2.1 : Int) != (v.2.1 : Int)) = true := by simp; omega
    have kd : decide (xs = ys) = false := by
      have : ¬ xs = ys := fun e => hn (by rw [e])
      simp [this]
    refine ⟨w, g19_call ?_, Fr.refl _ _⟩
    rw [kd]
    unfold g19
    simp only [k0, obs, asP_pointer, asB_bool, asI_int, asS_string, asSl_slice, asM_map, asTup0, asTup1, asTup2, asTup3, asTup4, asTup5, asTup6, asTup7, asTup8, asTup9, asAgg2, asAgg3, asAgg4, asAgg5, asAgg6, asAgg7, asAgg8, asAgg9, asAgg12, getD0, getD1, getD2, getD3, getD4, getD5, getD6, getD7, getD8, getD9, getD10, getD11, getD12, getD13, getD14, getD15, getD16, getD17, getD18, getD19, Bool.not_true, Bool.not_false, Bool.false_eq_true, Bool.true_eq_false, ↓reduceIte, decide_true, decide_false, Option.isNone_some, Option.isNone_none, Option.isSome_some, Option.isSome_none, beq_self_eq_true, bne_self_eq_false, Bool.and_true, Bool.true_and, Bool.and_false, Bool.false_and, not_true_eq_false, not_false_eq_true]
  have k0 : ((u.2.1 : Int) != (v.2.1 : Int)) = false := by simp; omega
  obtain ⟨e, t, w', g1, hF, hQ⟩ := loopS_rule (b := g19_l3_b u v) (n := xs.length) (I := fun k s x => s = (false, (k : Int)) ∧ Fr [] w x ∧ xs.take k = ys.take k)
    (Q := fun e s x => Fr [] w x ∧ (e = .ret ∧ s.1 = false ∧ xs ≠ ys ∨ e = .exit 0 ∧ xs = ys))
    (fun k s x hk ⟨hs, hF, ht⟩ => by
      subst hs
      have fd := Fr.drew [] x
      have F1 : Fr [] w x.drew := (Fr.mono (Fr.app hF fd) (by have z0_ := Fr.size hF; have z1_ := Fr.size fd; intro y_ hy_ hl_; grind [blkOf]))
      obtain ⟨a, i1, c1⟩ := (hu.fr3 F1 (by simp)).get hk
      obtain ⟨a', i2, c2⟩ := (hv.fr3 F1 (by simp)).get (i := k) (by omega)
      have k1 : decide ((k : Int) < (u.2.1 : Int)) = true := by simp; omega
      have kw := wrap_succ (n := k) (by omega)
      by_cases he : xs[k] = ys[k]
      · have k2 : (xs[k] != ys[k]) = false := by simp [he]
        refine ⟨.normal, (false, ((k + 1 : Nat) : Int)), x.drew, ?_, .inl ⟨rfl, rfl, F1, ?_⟩⟩
        · unfold g19_l3_b
          simp only [k1, i1, c1, i2, c2, k2, kw, obs, asP_pointer, asB_bool, asI_int, asS_string, asSl_slice, asM_map, asTup0, asTup1, asTup2, asTup3, asTup4, asTup5, asTup6, asTup7, asTup8, asTup9, asAgg2, asAgg3, asAgg4, asAgg5, asAgg6, asAgg7, asAgg8, asAgg9, asAgg12, getD0, getD1, getD2, getD3, getD4, getD5, getD6, getD7, getD8, getD9, getD10, getD11, getD12, getD13, getD14, getD15, getD16, getD17, getD18, getD19, Bool.not_true, Bool.not_false, Bool.false_eq_true, Bool.true_eq_false, ↓reduceIte, decide_true, decide_false, Option.isNone_some, Option.isNone_none, Option.isSome_some, Option.isSome_none, beq_self_eq_true, bne_self_eq_false, Bool.and_true, Bool.true_and, Bool.and_false, Bool.false_and, not_true_eq_false, not_false_eq_true]
        · rw [List.take_succ_eq_append_getElem hk, List.take_succ_eq_append_getElem (by omega), ht, he]
      · have k2 : (xs[k] != ys[k]) = true := by simp [he]
        refine ⟨.ret, (false, (k : Int)), x.drew, ?_, .inr ⟨by simp, F1, .inl ⟨rfl, rfl, fun e => he ?_⟩⟩⟩
        · unfold g19_l3_b
          simp only [k1, i1, c1, i2, c2, k2, obs, asP_pointer, asB_bool, asI_int, asS_string, asSl_slice, asM_map, asTup0, asTup1, asTup2, asTup3, asTup4, asTup5, asTup6, asTup7, asTup8, asTup9, asAgg2, asAgg3, asAgg4, asAgg5, asAgg6, asAgg7, asAgg8, asAgg9, asAgg12, getD0, getD1, getD2, getD3, getD4, getD5, getD6, getD7, getD8, getD9, getD10, getD11, getD12, getD13, getD14, getD15, getD16, getD17, getD18, getD19, Bool.not_true, Bool.not_false, Bool.false_eq_true, Bool.true_eq_false, ↓reduceIte, decide_true, decide_false, Option.isNone_some, Option.isNone_none, Option.isSome_some, Option.isSome_none, beq_self_eq_true, bne_self_eq_false, Bool.and_true, Bool.true_and, Bool.and_false, Bool.false_and, not_true_eq_false, not_false_eq_true]
        · have := congrArg (fun l => l[k]?) e
          simp only [List.getElem?_eq_getElem hk, List.getElem?_eq_getElem (show k < ys.length by omega), Option.some.injEq] at this
          exact this)
    (fun s x ⟨hs, hF, ht⟩ => by
      subst hs
      refine ⟨.exit 0, (false, (xs.length : Int)), x, ?_, by simp, hF, .inr ⟨rfl, ?_⟩⟩
      · have k1 : decide ((xs.length : Int) < (u.2.1 : Int)) = false := by simp; omega
        unfold g19_l3_b
        simp only [k1, Bool.false_eq_true, if_false]
      · rw [List.take_length] at ht
        rw [ht, hn, List.take_length]) (k := 0) (s := (false, 0)) (w := w) (Nat.zero_le _) ⟨rfl, Fr.refl _ _, by simp⟩
  rcases hQ with ⟨rfl, hs, hne⟩ | ⟨rfl, he⟩
  · refine ⟨w', g19_call ?_, hF⟩
    have kd : decide (xs = ys) = false := by simp [hne]
    rw [kd]
    unfold g19
    simp only [k0, obs, asP_pointer, asB_bool, asI_int, asS_string, asSl_slice, asM_map, asTup0, asTup1, asTup2, asTup3, asTup4, asTup5, asTup6, asTup7, asTup8, asTup9, asAgg2, asAgg3, asAgg4, asAgg5, asAgg6, asAgg7, asAgg8, asAgg9, asAgg12, getD0, getD1, getD2, getD3, getD4, getD5, getD6, getD7, getD8, getD9, getD10, getD11, getD12, getD13, getD14, getD15, getD16, getD17, getD18, getD19, Bool.not_true, Bool.not_false, Bool.false_eq_true, Bool.true_eq_false, ↓reduceIte, decide_true, decide_false, Option.isNone_some, Option.isNone_none, Option.isSome_some, Option.isSome_none, beq_self_eq_true, bne_self_eq_false, Bool.and_true, Bool.true_and, Bool.and_false, Bool.false_and, not_true_eq_false, not_false_eq_true]
    rw [g19_l3_ret_of g1, g19_l3_ret, hs]
  · refine ⟨w', g19_call ?_, hF⟩
    have kd : decide (xs = ys) = true := by simp [he]
    rw [kd]
    unfold g19
    simp only [k0, obs, asP_pointer, asB_bool, asI_int, asS_string, asSl_slice, asM_map, asTup0, asTup1, asTup2, asTup3, asTup4, asTup5, asTup6, asTup7, asTup8, asTup9, asAgg2, asAgg3, asAgg4, asAgg5, asAgg6, asAgg7, asAgg8, asAgg9, asAgg12, getD0, getD1, getD2, getD3, getD4, getD5, getD6, getD7, getD8, getD9, getD10, getD11, getD12, getD13, getD14, getD15, getD16, getD17, getD18, getD19, Bool.not_true, Bool.not_false, Bool.false_eq_true, Bool.true_eq_false, ↓reduceIte, decide_true, decide_false, Option.isNone_some, Option.isNone_none, Option.isSome_some, Option.isSome_none, beq_self_eq_true, bne_self_eq_false, Bool.and_true, Bool.true_and, Bool.and_false, Bool.false_and, not_true_eq_false, not_false_eq_true]
    rw [g19_l3_x0_of g1, g19_l3_x0]

/-- an image behind commands -/
theorem after18 (W : World) {w : World} (hF : Fr [] W w) (x0 : (Ty.slice CT).Val) (h0 : (Ty.slice CT).At W [.slice x0.1.1 x0.1.2.1 x0.1.2.2] x0) (hb : Ty.Fits (.slice CT) x0) :
    ∃ D b m w', callF Try.prog 18 #[.slice x0.1.1 x0.1.2.1 x0.1.2.2] w = some (.pointer (some ⟨b, 0, none⟩), w') ∧ Img w' D b m ∧ MI 2199023255488 m ∧ m.ns.length = 5 ∧ m.vs.length = 4 ∧ 0 ≤ m.count ∧ m.count ≤ 2199023255488 ∧ (∀ n ∈ m.ns, 0 ≤ n.bk ∧ n.bk ≤ 1001) ∧ Fr [] w w' ∧ ∀ y, D y → w.heap.size ≤ y := by
  have hlen := h0.2.1
  have hlb := cmds_len hb
  obtain ⟨w1, D, b, ct, nq, pq, es, e1, R1, hv1, f1, hD⟩ := new11 w (n := 5) (p := 4) (c := 3) (by omega) (by omega) (by omega)
  have hI : Img w1 D b ⟨List.replicate 5 nv0, newParts 5 3 4, 1, 0⟩ := ⟨ct, nq, pq, es, R1, hv1⟩
  obtain ⟨t, w2, g1, rfl, D2, m2, hI2, hM2, hn5, hv4, hc2, hbk2, hD2, hF2⟩ := loopS_countX 0 (b := g18_l6_b x0.1 (some ⟨b, 0, none⟩)) (n := x0.2.length)
    (I := fun k s x => s = (k : Int) ∧ ∃ D m, Img x D b m ∧ MI (k : Int) m ∧ m.ns.length = 5 ∧ m.vs.length = 4 ∧ m.count = (k : Int) ∧ (∀ n ∈ m.ns, 0 ≤ n.bk ∧ n.bk ≤ 1001) ∧ (∀ y, D y → w.heap.size ≤ y) ∧ Fr [] w x)
    (fun k s x hk ⟨hs, D, m, hI, hM, hn5, hv4, hc, hbk, hD, hFx⟩ => by
      subst hs
      have FW : Fr [] W x := (Fr.mono (Fr.app hF hFx) (by have z0_ := Fr.size hF; have z1_ := Fr.size hFx; intro y_ hy_ hl_; grind [blkOf]))
      obtain ⟨a, i1, ld, hq, hml⟩ := cmd_at h0 hb FW hk
      obtain ⟨r, hr⟩ : ∃ r, toC x0.2[k] = r := ⟨_, rfl⟩
      obtain ⟨q, hqq⟩ : ∃ q, x0.2[k].2.2.2.2.2.1.1 = q := ⟨_, rfl⟩
      rw [hr, hqq] at ld hq
      rw [hr] at hml
      have k0 : decide ((k : Int) < (x0.1.2.1 : Int)) = true := by simp; omega
      have kw := wrap_succ (n := k) (by omega)
      simp only [CV.cs] at ld
      obtain ⟨w1, s1, b1, f1, l1⟩ := newC2 x r q
      obtain ⟨v, w2, e2, o2, f2, n2⟩ := own142 w1 r (hq.fr3 f1 (by simp)) (by omega)
      have F2 : Fr [] x w2 := (Fr.mono (Fr.app f1 f2) (by have z0_ := Fr.size f1; have z1_ := Fr.size f2; intro y_ hy_ hl_; grind [blkOf]))
      obtain ⟨D3, w3, e3, hI3, C3⟩ := apply13 (hI.fr F2 (by simp)) hM.ok r v o2.slI (fun hn => (o2.empty hn).2.1) (by omega) (fun _ y hy hd => by have := n2 y hy; have := hI.lt y hd; have := f1.size; omega)
      obtain ⟨hM3, hR3⟩ := apply_mi hM (by omega) r
      obtain ⟨S, fS, hS⟩ := C3.fr
      have hz2 := F2.size
      have hzx := hFx.size
      simp only [CV.arg] at e2 e3
      have hcount : (applyI m r).1.count = ((k + 1 : Nat) : Int) := by
        have : (applyI m r).1.count = IntKind.i64.wrap (m.count + 1) := by
          unfold applyI
          repeat' split
          all_goals rfl
        rw [this, hc, kw]
      have hbk' : ∀ n ∈ (applyI m r).1.ns, 0 ≤ n.bk ∧ n.bk ≤ 1001 := by
        have hset : ∀ (i : Nat) (nd : NV), 0 ≤ nd.bk ∧ nd.bk ≤ 1001 → ∀ n ∈ m.ns.set i nd, 0 ≤ n.bk ∧ n.bk ≤ 1001 := by
          intro i nd hnd n hn
          rcases List.mem_or_eq_of_mem_set hn with hn | rfl
          · exact hbk n hn
          · exact hnd
        have hget : ∀ i, 0 ≤ (m.ns.getD i nv0).bk ∧ (m.ns.getD i nv0).bk ≤ 1001 := by
          intro i
          by_cases hi : i < m.ns.length
          · rw [getD_nat hi]; exact hbk _ (List.getElem_mem hi)
          · rw [List.getD_eq_getElem?_getD, List.getElem?_eq_none (by omega)]; decide
        have hnx := hM.next
        unfold applyI
        repeat' split
        all_goals first
          | exact hbk
          | exact hset _ _ (hget _)
          | exact hset _ _ (by show 0 ≤ m.next ∧ m.next ≤ 1001; omega)
      refine ⟨_, w3, ?_, rfl, D3, (applyI m r).1, hI3, by simpa using hM3, by rw [hR3.nl]; exact hn5, by rw [hR3.vl]; exact hv4, hcount, hbk', fun y hy => ?_, ?_⟩
      · unfold g18_l6_b
        simp only [k0, i1, ld, s1, l1, e2, e3, kw, obs, asP_pointer, asB_bool, asI_int, asS_string, asSl_slice, asM_map, asTup0, asTup1, asTup2, asTup3, asTup4, asTup5, asTup6, asTup7, asTup8, asTup9, asAgg2, asAgg3, asAgg4, asAgg5, asAgg6, asAgg7, asAgg8, asAgg9, asAgg12, getD0, getD1, getD2, getD3, getD4, getD5, getD6, getD7, getD8, getD9, getD10, getD11, getD12, getD13, getD14, getD15, getD16, getD17, getD18, getD19, Bool.not_true, Bool.not_false, Bool.false_eq_true, Bool.true_eq_false, ↓reduceIte, decide_true, decide_false, Option.isNone_some, Option.isNone_none, Option.isSome_some, Option.isSome_none, beq_self_eq_true, bne_self_eq_false, Bool.and_true, Bool.true_and, Bool.and_false, Bool.false_and, not_true_eq_false, not_false_eq_true]
      · rcases C3.new y hy with hh | hh
        · exact hD y hh
        · omega
      · have Fw2 : Fr [] w w2 := (Fr.mono (Fr.app hFx F2) (by have z0_ := Fr.size hFx; have z1_ := Fr.size F2; intro y_ hy_ hl_; grind [blkOf]))
        exact (Fw2.app fS).mono (by intro y hy hlt; simp at hy; have := hD y (hS y hy); omega))
    (fun s x ⟨hs, _⟩ => by
      subst hs
      unfold g18_l6_b
      have k0 : decide ((x0.2.length : Int) < (x0.1.2.1 : Int)) = false := by simp; omega
      simp only [k0, Bool.false_eq_true, if_false]) (k := 0) (s := 0) (w := w1) (Nat.zero_le _)
    ⟨rfl, D, _, hI, mi_new, by simp, by simp [newParts], rfl, fun n hn => by have := (List.mem_replicate.mp hn).2; subst this; decide, hD, f1⟩
  refine ⟨D2, b, m2, w2, g18_call ?_, hI2, ⟨hM2.nlen, hM2.vlen, hM2.next, fun v hv => (hM2.vs v hv).mono (by omega) (by omega)⟩, hn5, hv4, by omega, by omega, hbk2, hF2, hD2⟩
  have e1' : callF Try.prog 11 #[.int .i64 5, .int .i64 4, .int .i64 3] w = some (.tuple #[.pointer (some ⟨b, 0, none⟩), .int .i64 0], w1) := e1
  unfold g18
  simp only [e1', obs, asP_pointer, asB_bool, asI_int, asS_string, asSl_slice, asM_map, asTup0, asTup1, asTup2, asTup3, asTup4, asTup5, asTup6, asTup7, asTup8, asTup9, asAgg2, asAgg3, asAgg4, asAgg5, asAgg6, asAgg7, asAgg8, asAgg9, asAgg12, getD0, getD1, getD2, getD3, getD4, getD5, getD6, getD7, getD8, getD9, getD10, getD11, getD12, getD13, getD14, getD15, getD16, getD17, getD18, getD19, Bool.not_true, Bool.not_false, Bool.false_eq_true, Bool.true_eq_false, ↓reduceIte, decide_true, decide_false, Option.isNone_some, Option.isNone_none, Option.isSome_some, Option.isSome_none, beq_self_eq_true, bne_self_eq_false, Bool.and_true, Bool.true_and, Bool.and_false, Bool.false_and, not_true_eq_false, not_false_eq_true]
  rw [g18_l6_x0_of g1, g18_l6_x0]
end Go.Proofs.Ytjcenfgmpbeldaa
