/-
  ImageLeads: lemmas on what Go functions of this seat come to (for whatever arguments, as each says). No condition but those that stand in each lemma.
-/
import Derived.Test.YtjcenfgmpbeldaaImageL3
import Derived.Test.YtjcenfgmpbeldaaImageAd
namespace Go.Proofs.Ytjcenfgmpbeldaa
open Go Go.Ev
set_option maxRecDepth 100000
set_option linter.unusedVariables false
set_option linter.unusedSimpArgs false

/-- a part is laid into the list of what was -/
theorem lay {z : World} {pb wb : Nat} {v : PV} {qi qr qt : Sh} {ws : List PE} {T : TypeId} {j : Nat} (hp : Blk z pb (v.cs qi qr qt) 30) (hw : Blk z wb (ptCs ws) T) (hl : ws.length = 4) (hj : j < 4) :
    ∃ z', ldN z ⟨pb, 0, none⟩ 0 6 = some [.int .i64 v.ld, .int .i64 v.ep, .int .i64 v.vr, .slice qi.1 qi.2.1 qi.2.2, .slice qr.1 qr.2.1 qr.2.2, .slice qt.1 qt.2.1 qt.2.2] ∧ idxA (some ⟨wb, 0, none⟩) 4 6 (j : Int) = some ⟨wb, 0 + j * 6, none⟩ ∧
      stL z ⟨wb, 0 + j * 6, none⟩ [.int .i64 v.ld, .int .i64 v.ep, .int .i64 v.vr, .slice qi.1 qi.2.1 qi.2.2, .slice qr.1 qr.2.1 qr.2.2, .slice qt.1 qt.2.1 qt.2.2] 0 = some z' ∧ Blk z' wb (ptCs (ws.set j ⟨v, qi, qr, qt⟩)) T ∧ Fr [wb] z z' ∧
      z.cell? ⟨wb, 0 + j * 6, none⟩ = some (.int .i64 (ws[j]'(by omega)).v.ld) ∧ z.cell? ⟨wb, 0 + j * 6 + 1, none⟩ = some (.int .i64 (ws[j]'(by omega)).v.ep) ∧ z.cell? ⟨wb, 0 + j * 6 + 2, none⟩ = some (.int .i64 (ws[j]'(by omega)).v.vr) := by
  have hj' : j < ws.length := by omega
  obtain ⟨z', s, b, f⟩ := parts_set hw hj' ⟨v, qi, qr, qt⟩
  exact ⟨z', hp.ldN (n := 6) rfl, parts_idx hj, s, b, f, parts_get hw hj' (j := 0) (by decide), parts_get hw hj' (j := 1) (by decide), parts_get hw hj' (j := 2) (by decide)⟩

theorem leads_x4 {w : World} {D : Nat → Prop} {b k j : Nat} {m : IM} {t : Int} {r40 r5 : Value × World} {qi qr qt : Sh} {ws : List PE} {T : TypeId} {i : Int} {any : Bool} (h : Img w D b m) (hM : MI t m) (hj : j < 4) (hjm : j < m.vs.length)
    (hB : Blk w r40.2.heap.size (m.vs[j].cs qi qr qt) 30) (hW : Blk w r5.2.heap.size (ptCs ws) T) (hl : ws.length = 4) (hoi : Own w 3 1 qi (intsV' m.vs[j].isr)) (hany : any = m.vs[j].isr.any (aliveB m.ns)) (hrel : 0 < k → VR (ws[j]'(by omega)).v m.vs[j]) :
    ∃ w', g3_l60_x4 r40 (some ⟨b, 0, none⟩) (false, (j : Int)) (false, (k : Int)) r5 (false, any, i) w = some (.normal, (false, ((j + 1 : Nat) : Int)), w') ∧ Blk w' r5.2.heap.size (ptCs (ws.set j ⟨m.vs[j], qi, qr, qt⟩)) T ∧ Fr [r5.2.heap.size] w w' := by
  obtain ⟨v, hv⟩ : ∃ v, m.vs[j] = v := ⟨_, rfl⟩
  have hI := hM.vs m.vs[j] (List.getElem_mem hjm)
  rw [hv] at hB hoi hany hrel hI ⊢
  have kw := wrap_succ (n := j) (by omega)
  have c0 : w.cell? ⟨r40.2.heap.size, 0, none⟩ = some (.int .i64 v.ld) := hB.cell 0
  have hlen := sortedI_len hI.si
  have hn5 := hM.nlen
  obtain ⟨u, hu⟩ : ∃ u, (ws[j]'(by omega)).v = u := ⟨_, rfl⟩
  -- the end, from a world z
  have fin : ∀ z, Fr [] w z → ∃ z', Blk z' r5.2.heap.size (ptCs (ws.set j ⟨v, qi, qr, qt⟩)) T ∧ Fr [r5.2.heap.size] w z' ∧
      z.cell? ⟨r40.2.heap.size, 0, none⟩ = some (.int .i64 v.ld) ∧ z.cell? ⟨r40.2.heap.size, 1, none⟩ = some (.int .i64 v.ep) ∧ z.cell? ⟨r40.2.heap.size, 2, none⟩ = some (.int .i64 v.vr) ∧
      ldN z ⟨r40.2.heap.size, 0, none⟩ 0 6 = some [.int .i64 v.ld, .int .i64 v.ep, .int .i64 v.vr, .slice qi.1 qi.2.1 qi.2.2, .slice qr.1 qr.2.1 qr.2.2, .slice qt.1 qt.2.1 qt.2.2] ∧ idxA (some ⟨r5.2.heap.size, 0, none⟩) 4 6 (j : Int) = some ⟨r5.2.heap.size, 0 + j * 6, none⟩ ∧
      stL z ⟨r5.2.heap.size, 0 + j * 6, none⟩ [.int .i64 v.ld, .int .i64 v.ep, .int .i64 v.vr, .slice qi.1 qi.2.1 qi.2.2, .slice qr.1 qr.2.1 qr.2.2, .slice qt.1 qt.2.1 qt.2.2] 0 = some z' ∧
      z.cell? ⟨r5.2.heap.size, 0 + j * 6, none⟩ = some (.int .i64 u.ld) ∧ z.cell? ⟨r5.2.heap.size, 0 + j * 6 + 1, none⟩ = some (.int .i64 u.ep) ∧ z.cell? ⟨r5.2.heap.size, 0 + j * 6 + 2, none⟩ = some (.int .i64 u.vr) := by
    intro z f
    have hBz := hB.fr f (by simp)
    obtain ⟨z', l6, ix, s, b, f', a0, a1, a2⟩ := lay hBz (hW.fr f (by simp)) hl hj
    rw [hu] at a0 a1 a2
    exact ⟨z', b, (f.app f').mono (by intro y hy _; simpa using hy), hBz.cell 0, hBz.cell 1, hBz.cell 2, l6, ix, s, a0, a1, a2⟩
  rw [hu] at hrel
  by_cases h0 : 0 ≤ v.ld
  · have k0 : decide (v.ld ≥ 0) = true := by simp [h0]
    have k0' : decide (v.ld < 0) = false := by simp; omega
    obtain ⟨hm1, hm2⟩ := hI.l1 h0
    obtain ⟨cm, bk, w1, e1, f1⟩ := img_node h (n := v.ld) (hI.names.1 v.ld hm1)
    rw [hm2] at e1
    have hB1 := hB.fr f1 (by simp)
    have d3 : w1.cell? ⟨r40.2.heap.size, 3, none⟩ = some (.slice qi.1 qi.2.1 qi.2.2) := hB1.cell 3
    have d0 : w1.cell? ⟨r40.2.heap.size, 0, none⟩ = some (.int .i64 v.ld) := hB1.cell 0
    have e2 := has17 (hoi.fr f1 (by simp)).slC (by omega) v.ld
    have km : decide (v.ld ∈ v.isr) = true := by simp [hm1]
    have fd := Fr.drew [] w1
    obtain ⟨z', bz, fz, z0, z1, z2, l6, ix, s, a0, a1, a2⟩ := fin w1.drew (Fr.mono (Fr.app f1 fd) (by have z0_ := Fr.size f1; have z1_ := Fr.size fd; intro y_ hy_ hl_; grind [blkOf]))
    simp only [Nat.zero_add] at ix s a0 a1 a2
    refine ⟨z', ?_, bz, fz⟩
    unfold g3_l60_x4
    by_cases hk : 0 < k
    · have kk : decide ((k : Int) > 0) = true := by simp; omega
      have hr := hrel hk
      have r1 : decide (v.ep < u.ep) = false := by have := hr.ep; simp; omega
      have r2 : decide (v.vr < u.vr) = false := by have := hr.vr; simp; omega
      by_cases hld : v.ld = u.ld
      · have r3 : (v.ld != u.ld) = false := by simp [hld]
        simp only [c0, k0, e1, addr_add, Nat.zero_add, d3, d0, e2, km, z0, k0', kk, z1, ix, a1, r1, z2, a2, r2, a0, r3, l6, s, kw, obs, asP_pointer, asB_bool, asI_int, asS_string, asSl_slice, asM_map, asTup0, asTup1, asTup2, asTup3, asTup4, asTup5, asTup6, asTup7, asTup8, asTup9, asAgg2, asAgg3, asAgg4, asAgg5, asAgg6, asAgg7, asAgg8, asAgg9, asAgg12, getD0, getD1, getD2, getD3, getD4, getD5, getD6, getD7, getD8, getD9, getD10, getD11, getD12, getD13, getD14, getD15, getD16, getD17, getD18, getD19, Bool.not_true, Bool.not_false, Bool.false_eq_true, Bool.true_eq_false, ↓reduceIte, decide_true, decide_false, Option.isNone_some, Option.isNone_none, Option.isSome_some, Option.isSome_none, beq_self_eq_true, bne_self_eq_false, Bool.and_true, Bool.true_and, Bool.and_false, Bool.false_and, not_true_eq_false, not_false_eq_true]
      · have r3 : (v.ld != u.ld) = true := by simp [hld]
        have r4 : (v.ep == u.ep) = false := by have := hr.ld hld; simp [this]
        simp only [c0, k0, e1, addr_add, Nat.zero_add, d3, d0, e2, km, z0, k0', kk, z1, ix, a1, r1, z2, a2, r2, a0, r3, r4, l6, s, kw, obs, asP_pointer, asB_bool, asI_int, asS_string, asSl_slice, asM_map, asTup0, asTup1, asTup2, asTup3, asTup4, asTup5, asTup6, asTup7, asTup8, asTup9, asAgg2, asAgg3, asAgg4, asAgg5, asAgg6, asAgg7, asAgg8, asAgg9, asAgg12, getD0, getD1, getD2, getD3, getD4, getD5, getD6, getD7, getD8, getD9, getD10, getD11, getD12, getD13, getD14, getD15, getD16, getD17, getD18, getD19, Bool.not_true, Bool.not_false, Bool.false_eq_true, Bool.true_eq_false, ↓reduceIte, decide_true, decide_false, Option.isNone_some, Option.isNone_none, Option.isSome_some, Option.isSome_none, beq_self_eq_true, bne_self_eq_false, Bool.and_true, Bool.true_and, Bool.and_false, Bool.false_and, not_true_eq_false, not_false_eq_true]
    · have kk : decide ((k : Int) > 0) = false := by simp; omega
      simp only [c0, k0, e1, addr_add, Nat.zero_add, d3, d0, e2, km, z0, k0', kk, l6, ix, s, kw, obs, asP_pointer, asB_bool, asI_int, asS_string, asSl_slice, asM_map, asTup0, asTup1, asTup2, asTup3, asTup4, asTup5, asTup6, asTup7, asTup8, asTup9, asAgg2, asAgg3, asAgg4, asAgg5, asAgg6, asAgg7, asAgg8, asAgg9, asAgg12, getD0, getD1, getD2, getD3, getD4, getD5, getD6, getD7, getD8, getD9, getD10, getD11, getD12, getD13, getD14, getD15, getD16, getD17, getD18, getD19, Bool.not_true, Bool.not_false, Bool.false_eq_true, Bool.true_eq_false, ↓reduceIte, decide_true, decide_false, Option.isNone_some, Option.isNone_none, Option.isSome_some, Option.isSome_none, beq_self_eq_true, bne_self_eq_false, Bool.and_true, Bool.true_and, Bool.and_false, Bool.false_and, not_true_eq_false, not_false_eq_true]
  · have k0 : decide (v.ld ≥ 0) = false := by simp; omega
    have k0' : decide (v.ld < 0) = true := by simp; omega
    have hno := hI.l2 (by omega)
    have ha : any = false := by
      rw [hany]
      cases hc : v.isr.any (aliveB m.ns) with
      | false => rfl
      | true => obtain ⟨x, hx, hxx⟩ := List.any_eq_true.mp hc; rw [hno x hx] at hxx; cases hxx
    rw [ha]
    have fd := Fr.drew [] w
    obtain ⟨z', bz, fz, z0, z1, z2, l6, ix, s, a0, a1, a2⟩ := fin w.drew fd
    simp only [Nat.zero_add] at ix s a0 a1 a2
    refine ⟨z', ?_, bz, fz⟩
    unfold g3_l60_x4
    by_cases hk : 0 < k
    · have kk : decide ((k : Int) > 0) = true := by simp; omega
      have hr := hrel hk
      have r1 : decide (v.ep < u.ep) = false := by have := hr.ep; simp; omega
      have r2 : decide (v.vr < u.vr) = false := by have := hr.vr; simp; omega
      by_cases hld : v.ld = u.ld
      · have r3 : (v.ld != u.ld) = false := by simp [hld]
        simp only [c0, k0, addr_add, Nat.zero_add, z0, k0', kk, z1, ix, a1, r1, z2, a2, r2, a0, r3, l6, s, kw, obs, asP_pointer, asB_bool, asI_int, asS_string, asSl_slice, asM_map, asTup0, asTup1, asTup2, asTup3, asTup4, asTup5, asTup6, asTup7, asTup8, asTup9, asAgg2, asAgg3, asAgg4, asAgg5, asAgg6, asAgg7, asAgg8, asAgg9, asAgg12, getD0, getD1, getD2, getD3, getD4, getD5, getD6, getD7, getD8, getD9, getD10, getD11, getD12, getD13, getD14, getD15, getD16, getD17, getD18, getD19, Bool.not_true, Bool.not_false, Bool.false_eq_true, Bool.true_eq_false, ↓reduceIte, decide_true, decide_false, Option.isNone_some, Option.isNone_none, Option.isSome_some, Option.isSome_none, beq_self_eq_true, bne_self_eq_false, Bool.and_true, Bool.true_and, Bool.and_false, Bool.false_and, not_true_eq_false, not_false_eq_true]
      · have r3 : (v.ld != u.ld) = true := by simp [hld]
        have r4 : (v.ep == u.ep) = false := by have := hr.ld hld; simp [this]
        simp only [c0, k0, addr_add, Nat.zero_add, z0, k0', kk, z1, ix, a1, r1, z2, a2, r2, a0, r3, r4, l6, s, kw, obs, asP_pointer, asB_bool, asI_int, asS_string, asSl_slice, asM_map, asTup0, asTup1, asTup2, asTup3, asTup4, asTup5, asTup6, asTup7, asTup8, asTup9, asAgg2, asAgg3, asAgg4, asAgg5, asAgg6, asAgg7, asAgg8, asAgg9, asAgg12, getD0, getD1, getD2, getD3, getD4, getD5, getD6, getD7, getD8, getD9, getD10, getD11, getD12, getD13, getD14, getD15, getD16, getD17, getD18, getD19, Bool.not_true, Bool.not_false, Bool.false_eq_true, Bool.true_eq_false, ↓reduceIte, decide_true, decide_false, Option.isNone_some, Option.isNone_none, Option.isSome_some, Option.isSome_none, beq_self_eq_true, bne_self_eq_false, Bool.and_true, Bool.true_and, Bool.and_false, Bool.false_and, not_true_eq_false, not_false_eq_true]
    · have kk : decide ((k : Int) > 0) = false := by simp; omega
      simp only [c0, k0, addr_add, Nat.zero_add, z0, k0', kk, l6, ix, s, kw, obs, asP_pointer, asB_bool, asI_int, asS_string, asSl_slice, asM_map, asTup0, asTup1, asTup2, asTup3, asTup4, asTup5, asTup6, asTup7, asTup8, asTup9, asAgg2, asAgg3, asAgg4, asAgg5, asAgg6, asAgg7, asAgg8, asAgg9, asAgg12, getD0, getD1, getD2, getD3, getD4, getD5, getD6, getD7, getD8, getD9, getD10, getD11, getD12, getD13, getD14, getD15, getD16, getD17, getD18, getD19, Bool.not_true, Bool.not_false, Bool.false_eq_true, Bool.true_eq_false, ↓reduceIte, decide_true, decide_false, Option.isNone_some, Option.isNone_none, Option.isSome_some, Option.isSome_none, beq_self_eq_true, bne_self_eq_false, Bool.and_true, Bool.true_and, Bool.and_false, Bool.false_and, not_true_eq_false, not_false_eq_true]

/-- all in sync are among those on which it stands, or shall -/
theorem leads_l60 {w : World} {D : Nat → Prop} {b k j : Nat} {m : IM} {t : Int} {r40 r5 : Value × World} {qi qr qt : Sh} {u0 : Sh} (h : Img w D b m) (hM : MI t m) (hjm : j < m.vs.length)
    (hB : Blk w r40.2.heap.size (m.vs[j].cs qi qr qt) 30) (hoi : Own w 3 1 qi (intsV' m.vs[j].isr)) (hor : Own w 3 1 qr (intsV' m.vs[j].rep)) (hot : Own w 3 1 qt (intsV' m.vs[j].tgt)) :
    ∃ w', loopS (g3_l60_b qi (some ⟨b, 0, none⟩) r40 r5 (false, (k : Int)) (false, (j : Int)) u0) (false, false, 0) w = some (.exit 4, (false, m.vs[j].isr.any (aliveB m.ns), (m.vs[j].isr.length : Int)), w') ∧ Fr [] w w' := by
  obtain ⟨v, hv⟩ : ∃ v, m.vs[j] = v := ⟨_, rfl⟩
  have hI := hM.vs m.vs[j] (List.getElem_mem hjm)
  rw [hv] at hB hoi hor hot hI ⊢
  have hn5 := hM.nlen
  have hlen := sortedI_len hI.si
  have hrl := sortedI_len hI.sr
  have htl : v.tgt.length ≤ m.ns.length := by rcases hI.st with ht | ht; rw [ht]; simp; exact sortedI_len ht
  have hq := hoi.len
  simp only [intsV', List.length_map, Nat.mul_one] at hq
  obtain ⟨s, w', g1, rfl, hF⟩ := loopS_countX 4 (b := g3_l60_b qi (some ⟨b, 0, none⟩) r40 r5 (false, (k : Int)) (false, (j : Int)) u0) (n := v.isr.length)
    (I := fun i s x => s = (false, (v.isr.take i).any (aliveB m.ns), (i : Int)) ∧ Fr [] w x)
    (fun i s x hi ⟨hs, hF⟩ => by
      subst hs
      obtain ⟨a, i1, c1⟩ := (hoi.fr hF (by simp)).slC.get (i := i) (by simpa using hi)
      have c1' : x.cell? a = some (.int .i64 v.isr[i]) := by rw [c1]; simp
      have k1 : decide ((i : Int) < (qi.2.1 : Int)) = true := by simp; omega
      have hw := wrap_succ (n := i) (by omega)
      have hmem := List.getElem_mem hi
      obtain ⟨cm, bk, x1, e1, f1⟩ := img_node (h.fr hF (by simp)) (n := v.isr[i]) (hI.names.1 _ hmem)
      have F1 : Fr [] w x1 := (Fr.mono (Fr.app hF f1) (by have z0_ := Fr.size hF; have z1_ := Fr.size f1; intro y_ hy_ hl_; grind [blkOf]))
      have hB1 := hB.fr F1 (by simp)
      have d4 : x1.cell? ⟨r40.2.heap.size, 4, none⟩ = some (.slice qr.1 qr.2.1 qr.2.2) := hB1.cell 4
      have d5 : x1.cell? ⟨r40.2.heap.size, 5, none⟩ = some (.slice qt.1 qt.2.1 qt.2.2) := hB1.cell 5
      have e2 := has17 (hor.fr F1 (by simp)).slC (by omega) v.isr[i]
      have e3 := has17 (hot.fr F1 (by simp)).slC (by omega) v.isr[i]
      have hany : (v.isr.take (i + 1)).any (aliveB m.ns) = ((v.isr.take i).any (aliveB m.ns) || aliveB m.ns v.isr[i]) := by
        rw [List.take_succ_eq_append_getElem hi, List.any_append]; simp
      refine ⟨_, x1, ?_, rfl, F1⟩
      rw [hany]
      unfold g3_l60_b
      rcases hI.sub _ hmem with hm | hm
      · have m1 : decide (v.isr[i] ∈ v.rep) = true := by simp [hm]
        cases ha : (v.isr.take i).any (aliveB m.ns) with
        | true => simp only [k1, i1, c1', e1, addr_add, Nat.zero_add, d4, e2, m1, Bool.true_or, hw, obs, asP_pointer, asB_bool, asI_int, asS_string, asSl_slice, asM_map, asTup0, asTup1, asTup2, asTup3, asTup4, asTup5, asTup6, asTup7, asTup8, asTup9, asAgg2, asAgg3, asAgg4, asAgg5, asAgg6, asAgg7, asAgg8, asAgg9, asAgg12, getD0, getD1, getD2, getD3, getD4, getD5, getD6, getD7, getD8, getD9, getD10, getD11, getD12, getD13, getD14, getD15, getD16, getD17, getD18, getD19, Bool.not_true, Bool.not_false, Bool.false_eq_true, Bool.true_eq_false, ↓reduceIte, decide_true, decide_false, Option.isNone_some, Option.isNone_none, Option.isSome_some, Option.isSome_none, beq_self_eq_true, bne_self_eq_false, Bool.and_true, Bool.true_and, Bool.and_false, Bool.false_and, not_true_eq_false, not_false_eq_true]
        | false => simp only [k1, i1, c1', e1, addr_add, Nat.zero_add, d4, e2, m1, Bool.false_or, hw, obs, asP_pointer, asB_bool, asI_int, asS_string, asSl_slice, asM_map, asTup0, asTup1, asTup2, asTup3, asTup4, asTup5, asTup6, asTup7, asTup8, asTup9, asAgg2, asAgg3, asAgg4, asAgg5, asAgg6, asAgg7, asAgg8, asAgg9, asAgg12, getD0, getD1, getD2, getD3, getD4, getD5, getD6, getD7, getD8, getD9, getD10, getD11, getD12, getD13, getD14, getD15, getD16, getD17, getD18, getD19, Bool.not_true, Bool.not_false, Bool.false_eq_true, Bool.true_eq_false, ↓reduceIte, decide_true, decide_false, Option.isNone_some, Option.isNone_none, Option.isSome_some, Option.isSome_none, beq_self_eq_true, bne_self_eq_false, Bool.and_true, Bool.true_and, Bool.and_false, Bool.false_and, not_true_eq_false, not_false_eq_true]
      · have m2 : decide (v.isr[i] ∈ v.tgt) = true := by simp [hm]
        cases m1 : decide (v.isr[i] ∈ v.rep) with
        | true =>
          rw [m1] at e2
          cases ha : (v.isr.take i).any (aliveB m.ns) with
          | true => simp only [k1, i1, c1', e1, addr_add, Nat.zero_add, d4, e2, Bool.true_or, hw, obs, asP_pointer, asB_bool, asI_int, asS_string, asSl_slice, asM_map, asTup0, asTup1, asTup2, asTup3, asTup4, asTup5, asTup6, asTup7, asTup8, asTup9, asAgg2, asAgg3, asAgg4, asAgg5, asAgg6, asAgg7, asAgg8, asAgg9, asAgg12, getD0, getD1, getD2, getD3, getD4, getD5, getD6, getD7, getD8, getD9, getD10, getD11, getD12, getD13, getD14, getD15, getD16, getD17, getD18, getD19, Bool.not_true, Bool.not_false, Bool.false_eq_true, Bool.true_eq_false, ↓reduceIte, decide_true, decide_false, Option.isNone_some, Option.isNone_none, Option.isSome_some, Option.isSome_none, beq_self_eq_true, bne_self_eq_false, Bool.and_true, Bool.true_and, Bool.and_false, Bool.false_and, not_true_eq_false, not_false_eq_true]
          | false => simp only [k1, i1, c1', e1, addr_add, Nat.zero_add, d4, e2, Bool.false_or, hw, obs, asP_pointer, asB_bool, asI_int, asS_string, asSl_slice, asM_map, asTup0, asTup1, asTup2, asTup3, asTup4, asTup5, asTup6, asTup7, asTup8, asTup9, asAgg2, asAgg3, asAgg4, asAgg5, asAgg6, asAgg7, asAgg8, asAgg9, asAgg12, getD0, getD1, getD2, getD3, getD4, getD5, getD6, getD7, getD8, getD9, getD10, getD11, getD12, getD13, getD14, getD15, getD16, getD17, getD18, getD19, Bool.not_true, Bool.not_false, Bool.false_eq_true, Bool.true_eq_false, ↓reduceIte, decide_true, decide_false, Option.isNone_some, Option.isNone_none, Option.isSome_some, Option.isSome_none, beq_self_eq_true, bne_self_eq_false, Bool.and_true, Bool.true_and, Bool.and_false, Bool.false_and, not_true_eq_false, not_false_eq_true]
        | false =>
          rw [m1] at e2
          cases ha : (v.isr.take i).any (aliveB m.ns) with
          | true => simp only [k1, i1, c1', e1, addr_add, Nat.zero_add, d4, e2, d5, e3, m2, Bool.true_or, hw, obs, asP_pointer, asB_bool, asI_int, asS_string, asSl_slice, asM_map, asTup0, asTup1, asTup2, asTup3, asTup4, asTup5, asTup6, asTup7, asTup8, asTup9, asAgg2, asAgg3, asAgg4, asAgg5, asAgg6, asAgg7, asAgg8, asAgg9, asAgg12, getD0, getD1, getD2, getD3, getD4, getD5, getD6, getD7, getD8, getD9, getD10, getD11, getD12, getD13, getD14, getD15, getD16, getD17, getD18, getD19, Bool.not_true, Bool.not_false, Bool.false_eq_true, Bool.true_eq_false, ↓reduceIte, decide_true, decide_false, Option.isNone_some, Option.isNone_none, Option.isSome_some, Option.isSome_none, beq_self_eq_true, bne_self_eq_false, Bool.and_true, Bool.true_and, Bool.and_false, Bool.false_and, not_true_eq_false, not_false_eq_true]
          | false => simp only [k1, i1, c1', e1, addr_add, Nat.zero_add, d4, e2, d5, e3, m2, Bool.false_or, hw, obs, asP_pointer, asB_bool, asI_int, asS_string, asSl_slice, asM_map, asTup0, asTup1, asTup2, asTup3, asTup4, asTup5, asTup6, asTup7, asTup8, asTup9, asAgg2, asAgg3, asAgg4, asAgg5, asAgg6, asAgg7, asAgg8, asAgg9, asAgg12, getD0, getD1, getD2, getD3, getD4, getD5, getD6, getD7, getD8, getD9, getD10, getD11, getD12, getD13, getD14, getD15, getD16, getD17, getD18, getD19, Bool.not_true, Bool.not_false, Bool.false_eq_true, Bool.true_eq_false, ↓reduceIte, decide_true, decide_false, Option.isNone_some, Option.isNone_none, Option.isSome_some, Option.isSome_none, beq_self_eq_true, bne_self_eq_false, Bool.and_true, Bool.true_and, Bool.and_false, Bool.false_and, not_true_eq_false, not_false_eq_true])
    (fun s x ⟨hs, hF⟩ => by
      subst hs
      have k1 : decide ((v.isr.length : Int) < (qi.2.1 : Int)) = false := by simp; omega
      unfold g3_l60_b
      simp only [k1, Bool.false_eq_true, if_false]) (k := 0) (s := (false, false, 0)) (w := w) (Nat.zero_le _) ⟨by simp, Fr.refl _ _⟩
  rw [List.take_length] at g1
  exact ⟨w', g1, hF⟩

/-- the four partitions, one after the other -/
theorem leads_parts {w : World} {D : Nat → Prop} {b k : Nat} {m : IM} {t : Int} {r5 : Value × World} {u0 : Sh} {ws : List PE} {T : TypeId} (h : Img w D b m) (hM : MI t m) (h4 : m.vs.length = 4)
    (hW : Blk w r5.2.heap.size (ptCs ws) T) (hl : ws.length = 4) (hnD : ¬ D r5.2.heap.size) (hrel : 0 < k → ∀ j (hj : j < ws.length) (hj' : j < m.vs.length), VR ws[j].v m.vs[j]) :
    ∃ ws' w', loopS (g3_l37_b (some ⟨b, 0, none⟩) r5 (false, (k : Int)) u0) (false, 0) w = some (.exit 2, (false, 4), w') ∧ Blk w' r5.2.heap.size (ptCs ws') T ∧ ws'.length = 4 ∧ (∀ j (hj : j < ws'.length) (hj' : j < m.vs.length), ws'[j].v = m.vs[j]) ∧ Fr [r5.2.heap.size] w w' := by
  obtain ⟨s, w', g1, rfl, ws', hW', hl', hdone, _, hF⟩ := loopS_countX 2 (b := g3_l37_b (some ⟨b, 0, none⟩) r5 (false, (k : Int)) u0) (n := 4)
    (I := fun j s x => s = (false, (j : Int)) ∧ ∃ ws' : List PE, Blk x r5.2.heap.size (ptCs ws') T ∧ ws'.length = 4 ∧ (∀ i (hi : i < ws'.length) (hi' : i < m.vs.length), i < j → ws'[i].v = m.vs[i]) ∧ (0 < k → ∀ i (hi : i < ws'.length) (hi' : i < m.vs.length), j ≤ i → VR ws'[i].v m.vs[i]) ∧ Fr [r5.2.heap.size] w x)
    (fun j s x hj ⟨hs, ws', hW', hl', hdone, hleft, hF⟩ => by
      subst hs
      have hjm : j < m.vs.length := by omega
      have hx := h.fr hF (by intro y hy _ hd; simp at hy; subst hy; exact hnD hd)
      obtain ⟨qi, qr, qt, x1, e1, f1, oi, or_, ot⟩ := img_part hx hjm
      obtain ⟨x2, s2, b2, f2, l2⟩ := newP x1 m.vs[j] qi qr qt
      have F2 : Fr [] x x2 := (Fr.mono (Fr.app f1 f2) (by have z0_ := Fr.size f1; have z1_ := Fr.size f2; intro y_ hy_ hl_; grind [blkOf]))
      have hI := hM.vs m.vs[j] (List.getElem_mem hjm)
      have oi2 := oi.fr f2 (by simp)
      have or2 := or_.fr f2 (by simp)
      have ot2 := ot.fr f2 (by simp)
      have hqi := oi2.len
      have hqr := or2.len
      simp only [intsV', List.length_map, Nat.mul_one] at hqi hqr
      have hp1 := List.length_pos_iff.mpr (sortedI_iff.mp hI.si).1
      have hp2 := List.length_pos_iff.mpr (sortedI_iff.mp hI.sr).1
      have d3 : x2.cell? ⟨x1.heap.size, 3, none⟩ = some (.slice qi.1 qi.2.1 qi.2.2) := b2.cell 3
      have d4 : x2.cell? ⟨x1.heap.size, 4, none⟩ = some (.slice qr.1 qr.2.1 qr.2.2) := b2.cell 4
      have k0 : decide ((j : Int) < 4) = true := by simp; omega
      have k3 : ((qi.2.1 : Int) == 0) = false := by simp; omega
      have k4 : ((qr.2.1 : Int) == 0) = false := by simp; omega
      simp only [PV.arg] at e1
      obtain ⟨x3, g3, f3⟩ := leads_l60 (k := k) (r40 := (.tuple #[.agg #[.int .i64 m.vs[j].ld, .int .i64 m.vs[j].ep, .int .i64 m.vs[j].vr, .slice qi.1 qi.2.1 qi.2.2, .slice qr.1 qr.2.1 qr.2.2, .slice qt.1 qt.2.1 qt.2.2], .bool true], x1)) (r5 := r5) (u0 := u0) (hx.fr F2 (by simp)) hM hjm b2 oi2 or2 ot2
      have F3 : Fr [] x x3 := (Fr.mono (Fr.app F2 f3) (by have z0_ := Fr.size F2; have z1_ := Fr.size f3; intro y_ hy_ hl_; grind [blkOf]))
      obtain ⟨x4, e4, b4, f4⟩ := leads_x4 (k := k) (j := j) (r40 := (.tuple #[.agg #[.int .i64 m.vs[j].ld, .int .i64 m.vs[j].ep, .int .i64 m.vs[j].vr, .slice qi.1 qi.2.1 qi.2.2, .slice qr.1 qr.2.1 qr.2.2, .slice qt.1 qt.2.1 qt.2.2], .bool true], x1)) (r5 := r5) (i := (m.vs[j].isr.length : Int)) (hx.fr F3 (by simp)) hM hj hjm (b2.fr f3 (by simp)) (hW'.fr F3 (by simp)) hl' (oi2.fr f3 (by simp)) rfl (fun hk => hleft hk j (by omega) hjm (Nat.le_refl _))
      refine ⟨_, x4, ?_, rfl, ws'.set j ⟨m.vs[j], qi, qr, qt⟩, b4, by simpa using hl', fun i hi hi' hij => ?_, fun hk i hi hi' hij => ?_, (hF.app F3).app f4 |>.mono (by intro y hy _; simpa using hy)⟩
      · unfold g3_l37_b
        simp only [k0, e1, s2, addr_add, Nat.zero_add, d3, k3, d4, k4, obs, asP_pointer, asB_bool, asI_int, asS_string, asSl_slice, asM_map, asTup0, asTup1, asTup2, asTup3, asTup4, asTup5, asTup6, asTup7, asTup8, asTup9, asAgg2, asAgg3, asAgg4, asAgg5, asAgg6, asAgg7, asAgg8, asAgg9, asAgg12, getD0, getD1, getD2, getD3, getD4, getD5, getD6, getD7, getD8, getD9, getD10, getD11, getD12, getD13, getD14, getD15, getD16, getD17, getD18, getD19, Bool.not_true, Bool.not_false, Bool.false_eq_true, Bool.true_eq_false, ↓reduceIte, decide_true, decide_false, Option.isNone_some, Option.isNone_none, Option.isSome_some, Option.isSome_none, beq_self_eq_true, bne_self_eq_false, Bool.and_true, Bool.true_and, Bool.and_false, Bool.false_and, not_true_eq_false, not_false_eq_true]
        rw [g3_l60_x4_of g3]
        exact e4
      · rw [List.getElem_set]
        split
        · rename_i he; subst he; rfl
        · exact hdone i (by simpa using hi) hi' (by omega)
      · rw [List.getElem_set]
        split
        · omega
        · exact hleft hk i (by simpa using hi) hi' (by omega))
    (fun s x ⟨hs, _⟩ => by subst hs; rfl) (k := 0) (s := (false, 0)) (w := w) (Nat.zero_le _) ⟨rfl, ws, hW, hl, fun i hi hi' h0 => absurd h0 (by omega), fun hk i hi hi' _ => hrel hk i hi hi', Fr.refl _ _⟩
  exact ⟨ws', w', g1, hW', hl', fun j hj hj' => hdone j hj hj' (by omega), hF⟩

structure LInv (W : World) (b wb : Nat) (T : TypeId) (k : Nat) (w : World) : Prop where
  ex : ∃ (D : Nat → Prop) (m : IM) (ws : List PE), Img w D b m ∧ MI (k : Int) m ∧ m.ns.length = 5 ∧ m.vs.length = 4 ∧ Blk w wb (ptCs ws) T ∧ ws.length = 4 ∧ (0 < k → ∀ j (hj : j < ws.length) (hj' : j < m.vs.length), ws[j].v = m.vs[j]) ∧ ¬ D wb ∧ ∀ y, D y → W.heap.size ≤ y
  wb : W.heap.size ≤ wb
  fr : Fr [] W w

theorem leads_round {W w : World} {b k : Nat} {r5 : Value × World} {T : TypeId} {x0 : (Ty.slice CT).Val} (h0 : (Ty.slice CT).At W [.slice x0.1.1 x0.1.2.1 x0.1.2.2] x0) (hb : Ty.Fits (.slice CT) x0)
    (h : LInv W b r5.2.heap.size T k w) (hk : k < x0.2.length) :
    ∃ w', g3_l8_b x0.1 (some ⟨b, 0, none⟩) r5 (false, (k : Int)) w = some (.normal, (false, ((k + 1 : Nat) : Int)), w') ∧ LInv W b r5.2.heap.size T (k + 1) w' := by
  obtain ⟨⟨D, m, ws, hI, hM, hn5, hv4, hW, hl, hsame, hnD, hD⟩, hwb, hF⟩ := h
  obtain ⟨a, i1, ld, hq, hml⟩ := cmd_at h0 hb hF hk
  have hlb := cmds_len hb
  obtain ⟨r, hr⟩ : ∃ r, toC x0.2[k] = r := ⟨_, rfl⟩
  obtain ⟨q, hqq⟩ : ∃ q, x0.2[k].2.2.2.2.2.1.1 = q := ⟨_, rfl⟩
  rw [hr, hqq] at ld hq
  rw [hr] at hml
  have hlen := h0.2.1
  have k0 : decide ((k : Int) < (x0.1.2.1 : Int)) = true := by simp; omega
  have kw := wrap_succ (n := k) (by omega)
  simp only [CV.cs] at ld
  obtain ⟨w1, s1, b1, f1, l1⟩ := newC2 w r q
  obtain ⟨v, w2, e2, o2, f2, n2⟩ := own142 w1 r (hq.fr3 f1 (by simp)) (by omega)
  have F2 : Fr [] w w2 := (Fr.mono (Fr.app f1 f2) (by have z0_ := Fr.size f1; have z1_ := Fr.size f2; intro y_ hy_ hl_; grind [blkOf]))
  have hI2 := hI.fr F2 (by simp)
  obtain ⟨D3, w3, e3, hI3, C3⟩ := apply13 hI2 hM.ok r v o2.slI (fun hn => (o2.empty hn).2.1) (by omega) (fun _ y hy hd => by have := n2 y hy; have := hI.lt y hd; have := f1.size; omega)
  obtain ⟨hM3, hR3⟩ := apply_mi hM (by omega) r
  obtain ⟨S, fS, hS⟩ := C3.fr
  have hW3 := (hW.fr F2 (by simp)).fr fS (fun hm => hnD (hS _ hm))
  have hzw := hW.lt
  have hz2 := F2.size
  have hnD3 : ¬ D3 r5.2.heap.size := fun hd => by
    rcases C3.new _ hd with hh | hh
    · exact hnD hh
    · omega
  have hv4' : (applyI m r).1.vs.length = 4 := by rw [hR3.vl]; exact hv4
  obtain ⟨ws', w4, g4, b4, hl4, hd4, f4⟩ := leads_parts (k := k) (r5 := r5) (u0 := x0.1) hI3 hM3 hv4' hW3 hl hnD3 (fun hk0 j hj hj' => by
    rw [hsame hk0 j hj (by omega)]
    exact hR3.each j (by omega) hj')
  simp only [CV.arg] at e2 e3
  refine ⟨w4, ?_, ⟨⟨D3, (applyI m r).1, ws', hI3.fr f4 (by intro y hy _ hd; simp at hy; subst hy; exact hnD3 hd), by simpa using hM3, by rw [hR3.nl]; exact hn5, hv4', b4, hl4, fun _ => hd4, hnD3, fun y hy => ?_⟩, hwb, ?_⟩⟩
  · unfold g3_l8_b
    simp only [k0, i1, ld, s1, l1, e2, e3, obs, asP_pointer, asB_bool, asI_int, asS_string, asSl_slice, asM_map, asTup0, asTup1, asTup2, asTup3, asTup4, asTup5, asTup6, asTup7, asTup8, asTup9, asAgg2, asAgg3, asAgg4, asAgg5, asAgg6, asAgg7, asAgg8, asAgg9, asAgg12, getD0, getD1, getD2, getD3, getD4, getD5, getD6, getD7, getD8, getD9, getD10, getD11, getD12, getD13, getD14, getD15, getD16, getD17, getD18, getD19, Bool.not_true, Bool.not_false, Bool.false_eq_true, Bool.true_eq_false, ↓reduceIte, decide_true, decide_false, Option.isNone_some, Option.isNone_none, Option.isSome_some, Option.isSome_none, beq_self_eq_true, bne_self_eq_false, Bool.and_true, Bool.true_and, Bool.and_false, Bool.false_and, not_true_eq_false, not_false_eq_true]
    rw [g3_l37_x2_of g4]
    unfold g3_l37_x2
    simp only [kw, obs, asP_pointer, asB_bool, asI_int, asS_string, asSl_slice, asM_map, asTup0, asTup1, asTup2, asTup3, asTup4, asTup5, asTup6, asTup7, asTup8, asTup9, asAgg2, asAgg3, asAgg4, asAgg5, asAgg6, asAgg7, asAgg8, asAgg9, asAgg12, getD0, getD1, getD2, getD3, getD4, getD5, getD6, getD7, getD8, getD9, getD10, getD11, getD12, getD13, getD14, getD15, getD16, getD17, getD18, getD19, Bool.not_true, Bool.not_false, Bool.false_eq_true, Bool.true_eq_false, ↓reduceIte, decide_true, decide_false, Option.isNone_some, Option.isNone_none, Option.isSome_some, Option.isSome_none, beq_self_eq_true, bne_self_eq_false, Bool.and_true, Bool.true_and, Bool.and_false, Bool.false_and, not_true_eq_false, not_false_eq_true]
  · rcases C3.new y hy with hh | hh
    · exact hD y hh
    · have := hF.size; omega
  · have FW2 : Fr [] W w2 := (Fr.mono (Fr.app hF F2) (by have z0_ := Fr.size hF; have z1_ := Fr.size F2; intro y_ hy_ hl_; grind [blkOf]))
    exact ((FW2.app fS).app f4).mono (by
      intro y hy hlt
      simp at hy
      rcases hy with hy | hy
      · have := hD y (hS y hy); omega
      · omega)

theorem ImageLeads_main0 (W : World) (x0 : (Ty.slice CT).Val) (h0 : (Ty.slice CT).At W [.slice x0.1.1 x0.1.2.1 x0.1.2.2] x0) (hb : Ty.Fits (.slice CT) x0) :
    ∃ w', callF Try.prog 3 #[.slice x0.1.1 x0.1.2.1 x0.1.2.2] W = some (.bool true, w') ∧ Fr [] W w' := by
  have hlen := h0.2.1
  obtain ⟨w1, D, b, ct, nq, pq, es, e1, R1, hv1, f1, hD⟩ := new11 W (n := 5) (p := 4) (c := 3) (by omega) (by omega) (by omega)
  obtain ⟨w2, e2, f2⟩ := awake12 w1
  obtain ⟨w3, hw3⟩ : ∃ w3, w2.alloc (.cells (ptCs (List.replicate 4 ⟨pv0, nl, nl, nl⟩)).toArray 31) = w3 := ⟨_, rfl⟩
  have f3 : Fr [] w2 w3 := by rw [← hw3]; exact Fr.alloc _
  have b3 : Blk w3 w2.heap.size (ptCs (List.replicate 4 ⟨pv0, nl, nl, nl⟩)) 31 := by rw [← hw3]; exact Blk.new _ _ _
  have F3 : Fr [] w1 w3 := (Fr.mono (Fr.app f2 f3) (by have z0_ := Fr.size f2; have z1_ := Fr.size f3; intro y_ hy_ hl_; grind [blkOf]))
  have z1 := f1.size
  have z2 := f2.size
  have hI : Img w3 D b ⟨List.replicate 5 nv0, newParts 5 3 4, 1, 0⟩ := Img.fr ⟨ct, nq, pq, es, R1, hv1⟩ F3 (by simp)
  obtain ⟨t, w4, g1, rfl, hL⟩ := loopS_countX 0 (b := g3_l8_b x0.1 (some ⟨b, 0, none⟩) (.bool true, w2)) (n := x0.2.length)
    (I := fun k s x => s = (false, (k : Int)) ∧ LInv W b w2.heap.size 31 k x)
    (fun k s x hk ⟨hs, h⟩ => by
      subst hs
      obtain ⟨w', g, h'⟩ := leads_round (r5 := (.bool true, w2)) h0 hb h hk
      exact ⟨_, w', g, rfl, h'⟩)
    (fun s x ⟨hs, _⟩ => by
      subst hs
      unfold g3_l8_b
      have k0 : decide ((x0.2.length : Int) < (x0.1.2.1 : Int)) = false := by simp; omega
      simp only [k0, Bool.false_eq_true, if_false]) (k := 0) (s := (false, 0)) (w := w3) (Nat.zero_le _)
    ⟨rfl, ⟨⟨D, _, List.replicate 4 ⟨pv0, nl, nl, nl⟩, hI, mi_new, by simp, by simp [newParts], b3, by simp, fun hk => absurd hk (by omega), fun hd => by have := hI.lt _ hd; have := R1.lt _ hd; omega, hD⟩, by omega, (Fr.mono (Fr.app f1 F3) (by have z0_ := Fr.size f1; have z1_ := Fr.size F3; intro y_ hy_ hl_; grind [blkOf]))⟩⟩
  refine ⟨w4, g3_call ?_, hL.fr⟩
  have n00 : ((0 : Int) != 0) = false := rfl
  have ha : w2.alloc (.cells #[.int .i64 0, .int .i64 0, .int .i64 0, .slice none 0 0, .slice none 0 0, .slice none 0 0, .int .i64 0, .int .i64 0, .int .i64 0, .slice none 0 0, .slice none 0 0, .slice none 0 0, .int .i64 0, .int .i64 0, .int .i64 0, .slice none 0 0, .slice none 0 0, .slice none 0 0, .int .i64 0, .int .i64 0, .int .i64 0, .slice none 0 0, .slice none 0 0, .slice none 0 0] 31) = w3 := hw3
  have e1' : callF Try.prog 11 #[.int .i64 5, .int .i64 4, .int .i64 3] W = some (.tuple #[.pointer (some ⟨b, 0, none⟩), .int .i64 0], w1) := e1
  unfold g3
  simp only [e1', e2, n00, ha, obs, asP_pointer, asB_bool, asI_int, asS_string, asSl_slice, asM_map, asTup0, asTup1, asTup2, asTup3, asTup4, asTup5, asTup6, asTup7, asTup8, asTup9, asAgg2, asAgg3, asAgg4, asAgg5, asAgg6, asAgg7, asAgg8, asAgg9, asAgg12, getD0, getD1, getD2, getD3, getD4, getD5, getD6, getD7, getD8, getD9, getD10, getD11, getD12, getD13, getD14, getD15, getD16, getD17, getD18, getD19, Bool.not_true, Bool.not_false, Bool.false_eq_true, Bool.true_eq_false, ↓reduceIte, decide_true, decide_false, Option.isNone_some, Option.isNone_none, Option.isSome_some, Option.isSome_none, beq_self_eq_true, bne_self_eq_false, Bool.and_true, Bool.true_and, Bool.and_false, Bool.false_and, not_true_eq_false, not_false_eq_true]
  rw [g3_l8_x0_of g1, g3_l8_x0]

theorem ImageLeads_main (W : World) (x0 : (Ty.slice (.cons (.int .i64) (.cons (.int .i64) (.cons (.int .i64) (.cons (.int .i64) (.cons (.int .i64) (.cons (.slice (.int .i64)) .nil))))))).Val) (h0 : (Ty.slice (.cons (.int .i64) (.cons (.int .i64) (.cons (.int .i64) (.cons (.int .i64) (.cons (.int .i64) (.cons (.slice (.int .i64)) .nil))))))).At W [.slice x0.1.1 x0.1.2.1 x0.1.2.2] x0) (hs0 : Ty.Fits (.slice (.cons (.int .i64) (.cons (.int .i64) (.cons (.int .i64) (.cons (.int .i64) (.cons (.int .i64) (.cons (.slice (.int .i64)) .nil))))))) x0) :
    ∃ w', callF Try.prog 3 #[.slice x0.1.1 x0.1.2.1 x0.1.2.2] W = some (.bool true, w') ∧ Fr [] W w' :=
  ImageLeads_main0 W x0 h0 hs0
end Go.Proofs.Ytjcenfgmpbeldaa
