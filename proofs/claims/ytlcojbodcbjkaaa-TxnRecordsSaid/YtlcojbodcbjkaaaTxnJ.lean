/-
  TxnJ: lemmas on what Go functions of this seat come to (for whatever arguments, as each says). No condition but those that stand in each lemma.
-/
import Derived.Test.YtlcojbodcbjkaaaTxnI
namespace Go.Proofs.Ytlcojbodcbjkaaa
open Go Go.Ev
set_option maxRecDepth 100000
set_option linter.unusedVariables false
set_option linter.unusedSimpArgs false

theorem own_lt {w : World} {e : TypeId} {n : Nat} {v : Option Addr × Nat × Nat} {xs : List Value} (h : Own w e n v xs) : ∀ y ∈ blkOf v, y < w.heap.size := by
  intro y hy
  rcases h.at_ with ⟨h1, _⟩ | ⟨g, off, cur, h1, h2, _⟩
  · simp [blkOf, h1] at hy
  · simp [blkOf, h1] at hy
    subst hy
    exact lt_of_blk h2

def apA (A : List (Int × TV)) (r : RV) : List (Int × TV) := kups A r.tx (fun o => stepT r (o.getD tv0))

/-- all that a record does to a name in memory -/
theorem j8 {w0 w : World} {r : RV} {rq q : Option Addr × Nat × Nat} {p : Nat} {v : TV} (h : St w w0.heap.size r rq p v q) (hn : r.k = 2 → v.parts.length + r.parts.length ≤ 100000000) (hs : r.k = 2 → (addAll v.parts r.parts).length ≤ 12) :
    ∃ w' q', g13_j8 w0 (some ⟨p, 0, none⟩) w = some (.tuple #[], w') ∧ Blk w' p ((stepT r v).cs q') 46 ∧ Own w' 3 1 q' (intsV' (stepT r v).parts) ∧ Fr (p :: blkOf q) w w' ∧ ∀ y ∈ blkOf q', y ∈ blkOf q ∨ w.heap.size ≤ y := by
  have npq : p ∉ blkOf q := h.pe.notin h.ow (by decide)
  by_cases h1 : r.k = 1
  · obtain ⟨w', e, b, f⟩ := j8_init h h1
    have hst : (stepT r v).parts = [] := by unfold stepT; rw [if_pos h1]
    exact ⟨w', (none, 0, 0), e, b, by rw [hst]; exact Own.nil _ _ _, f.mono (by intro y hy hl; simp at hy; simp [hy]), by simp [blkOf]⟩
  by_cases h2 : r.k = 2
  · exact j8_add h h2 (hn h2) (hs h2)
  by_cases h3 : r.k = 3
  · obtain ⟨w', e, b, f⟩ := j8_prep h h3
    have hst : (stepT r v).parts = v.parts := by unfold stepT; rw [if_neg h1, if_neg h2, if_pos h3]
    exact ⟨w', q, e, b, by rw [hst]; exact h.ow.fr f (fun y hy hm => by simp at hm; subst hm; exact npq hy), f.mono (by intro y hy hl; simp at hy; simp [hy]), fun y hy => .inl hy⟩
  by_cases h4 : r.k = 4
  · obtain ⟨w', e, b, f⟩ := j8_done h h4
    have hst : (stepT r v).parts = [] := by unfold stepT; rw [if_neg h1, if_neg h2, if_neg h3, if_pos h4]
    exact ⟨w', (none, 0, 0), e, b, by rw [hst]; exact Own.nil _ _ _, f.mono (by intro y hy hl; simp at hy; simp [hy]), by simp [blkOf]⟩
  obtain ⟨e, hst⟩ := j8_none h h1 h2 h3 h4
  rw [hst]
  exact ⟨w, q, e, h.pe, h.ow, Fr.refl _ _, fun y hy => .inl hy⟩

section
variable {w : World} {D : Nat → Prop} {tb : Nat} {A : List (Int × TV)}

theorem tb_put {x x' : World} {r : Nat} {fs : List PE} {i : Nat} (hi : i < fs.length) {f' : PE}
    (h2 : Blk x tb [.map (some r)] 71) (h4 : MapAt (Value.int .i64) x r (keysOf fs)) (h5 : Ps x D fs) (h6 : D r) (hdb : D tb) (hlt : ∀ y, D y → y < x.heap.size)
    (n1 : f'.pb = fs[i].pb) (n2 : f'.pid = fs[i].pid) (sb : Blk x' f'.pb f'.cs 46) (so : Own x' 3 1 f'.q (intsV' f'.pv.parts)) (F : Fr (fs[i].pb :: blkOf fs[i].q) x x') (k6 : ∀ y ∈ blkOf f'.q, y ∈ blkOf fs[i].q ∨ x.heap.size ≤ y) :
    ∃ D', Tb x' D' tb ((fs.set i f').map PE.ab) ∧ Chg D x x' D' := by
  have ok0 := h5.ok i hi
  have z := F.size
  have lf := own_lt so
  have hD : ∀ y, D y → (D y ∨ x.heap.size ≤ y ∧ y < x'.heap.size) := fun y hy => .inl hy
  have hk : keysOf (fs.set i f') = keysOf fs := by
    unfold keysOf
    rw [List.map_set]
    have : (f'.pid, Value.pointer (some ⟨f'.pb, 0, none⟩)) = (fs.map fun f => (f.pid, Value.pointer (some ⟨f.pb, 0, none⟩)))[i]'(by simpa using hi) := by simp [n1, n2]
    rw [this]
    exact List.set_getElem_self _
  have tbl : Blk x' tb [.map (some r)] 71 := h2.fr F (by
    simp only [List.mem_cons]
    rintro (hh | hh)
    · exact h2.ne ok0.blk (by decide) hh
    · exact h2.notin ok0.own (by decide) hh)
  refine ⟨fun y => D y ∨ x.heap.size ≤ y ∧ y < x'.heap.size, ⟨⟨r, fs.set i f', rfl, tbl, ?_, ?_, .inl h6⟩, .inl hdb, ?_⟩, ⟨⟨_, F, ?_⟩, hD, ?_⟩⟩
  · rw [hk]
    refine h4.fr F ?_
    have a2 := h4.ne_blk ok0.blk
    have a4 := h4.notin ok0.own
    simp only [List.mem_cons]
    rintro (hh | hh)
    · exact a2 hh
    · exact a4 hh
  · refine h5.set hi n2 n1 F ?_ hD ?_ k6
    · intro y hy
      simp only [List.mem_cons] at hy
      rcases hy with hh | hh
      · exact .inl hh
      · exact .inr (.inl hh)
    · refine ⟨sb, so, .inl (n1 ▸ ok0.reg.1), fun y hy => ?_⟩
      rcases k6 y hy with hh | hh
      · exact .inl (ok0.reg.2 y hh)
      · exact .inr ⟨hh, lf y hy⟩
  · intro y hy
    rcases hy with hy | hy
    · have := hlt y hy; omega
    · exact hy.2
  · intro y hy
    simp only [List.mem_cons] at hy
    rcases hy with hh | hh
    · exact hh ▸ ok0.reg.1
    · exact ok0.reg.2 y hh
  · intro y hy
    rcases hy with hy | hy
    · exact .inl hy
    · exact .inr hy.1

theorem apply13 {r : RV} {rq : Option Addr × Nat × Nat} (h : Tb w D tb A) (sl : SlC w 1 rq (intsV' r.parts)) (hrd : 0 < r.parts.length → ∀ y ∈ blkOf rq, ¬ D y ∧ y < w.heap.size)
    (hn : r.k = 2 → (tvOf A r.tx).parts.length + r.parts.length ≤ 100000000) (hs : r.k = 2 → (addAll (tvOf A r.tx).parts r.parts).length ≤ 12) :
    ∃ w' D', callF Try.prog 13 #[.pointer (some ⟨tb, 0, none⟩), r.arg rq] w = some (.tuple #[], w') ∧ Tb w' D' tb (apA A r) ∧ Chg D w w' D' := by
  have f1 : Fr [] w (w.alloc (.cells #[.int .i64 r.k, .int .i64 r.tx, .int .i64 r.inc, .int .u64 r.pid, .int .i64 r.ep, .slice rq.1 rq.2.1 rq.2.2, .bool r.com] 30)) := Fr.alloc _
  have s1 : Blk (w.alloc (.cells #[.int .i64 r.k, .int .i64 r.tx, .int .i64 r.inc, .int .u64 r.pid, .int .i64 r.ep, .slice rq.1 rq.2.1 rq.2.2, .bool r.com] 30)) w.heap.size (r.cs rq) 30 := Blk.new w (r.cs rq) 30
  obtain ⟨v, hv1⟩ : ∃ v, w.alloc (.cells #[.int .i64 r.k, .int .i64 r.tx, .int .i64 r.inc, .int .u64 r.pid, .int .i64 r.ep, .slice rq.1 rq.2.1 rq.2.2, .bool r.com] 30) = v := ⟨_, rfl⟩
  rw [hv1] at s1 f1
  have call := fun R => g13_call (u0 := some ⟨tb, 0, none⟩) (u1c0 := r.k) (u1c1 := r.tx) (u1c2 := r.inc) (u1c3 := r.pid) (u1c4 := r.ep) (u1c5 := rq) (u1c6 := r.com) (w0 := w) (r := R)
  have fd := Fr.drew [] v
  have F1 : Fr [] w v.drew := (Fr.mono (Fr.app f1 fd) (by have z0_ := Fr.size f1; have z1_ := Fr.size fd; intro y_ hy_ hl_; grind [blkOf]))
  have bb := s1.fr fd (by simp)
  have sl1 := sl.fr F1 (fun _ y _ => by simp)
  have h1 := h.fr F1 (by simp)
  obtain ⟨rm, fs, rfl, h2, h4, h5, h6⟩ := h1.ex
  have t0 : v.drew.cell? ⟨tb, 0, none⟩ = some (.map (some rm)) := h2.cell 0
  have d1 : v.drew.cell? ⟨w.heap.size, 1, none⟩ = some (.int .i64 r.tx) := bb.cell 1
  have lk := look_nm h4 r.tx
  have hchg : ∀ {x' : World} {D' : Nat → Prop}, Chg D v.drew x' D' → Chg D w x' D' := by
    intro x' D' c
    obtain ⟨S, f, hS⟩ := c.fr
    have n := c.new
    have z := F1.size
    exact ⟨⟨S, (Fr.mono (Fr.app F1 f) (by have z0_ := Fr.size F1; have z1_ := Fr.size f; intro y_ hy_ hl_; grind [blkOf])), hS⟩, c.up, fun y hy => (n y hy).imp id (fun hh => by omega)⟩
  rcases keysOf_get fs r.tx with ⟨i, hi, k1, k2, k3, k4⟩ | ⟨k1, k2, k3, k4⟩
  · rw [k2] at lk
    have hv : tvOf (fs.map PE.ab) r.tx = fs[i].pv := by unfold tvOf; rw [k3]; rfl
    rw [hv] at hn hs
    have ok := h5.ok i hi
    have st : St v.drew w.heap.size r rq fs[i].pb fs[i].pv fs[i].q := ⟨bb, ok.blk, ok.own, sl1, fun h0 y hy => ⟨fun e => (hrd h0 y hy).1 (e ▸ ok.reg.1), fun hm => (hrd h0 y hy).1 (ok.reg.2 y hm)⟩⟩
    obtain ⟨x', q', e, sb, so, F, k6⟩ := j8 st hn hs
    obtain ⟨D', ht, hc⟩ := tb_put (f' := ⟨fs[i].pid, fs[i].pb, q', stepT r fs[i].pv⟩) hi h2 h4 h5 h6 h1.db h1.lt rfl rfl sb so F k6
    have ea : apA (fs.map PE.ab) r = (fs.set i ⟨fs[i].pid, fs[i].pb, q', stepT r fs[i].pv⟩).map PE.ab := by
      unfold apA
      rw [k4, List.map_set]
      have : PE.ab ⟨fs[i].pid, fs[i].pb, q', stepT r fs[i].pv⟩ = (r.tx, stepT r fs[i].pv) := by unfold PE.ab; rw [k1]
      rw [this]; rfl
    rw [ea]
    refine ⟨x', D', call _ ?_, ht, hchg hc⟩
    have hD : ∀ x : Value, (some x).getD (.pointer none) = x := fun _ => rfl
    unfold g13
    simp only [hv1, addr_add, Nat.zero_add, t0, d1, lk, hD, e, obs, asP_pointer, asB_bool, asI_int, asS_string, asSl_slice, asM_map, asTup0, asTup1, asTup2, asTup3, asTup4, asTup5, asTup6, asTup7, asTup8, asTup9, asAgg2, asAgg3, asAgg4, asAgg5, asAgg6, asAgg7, asAgg8, asAgg9, asAgg12, getD0, getD1, getD2, getD3, getD4, getD5, getD6, getD7, getD8, getD9, getD10, getD11, getD12, getD13, getD14, getD15, getD16, getD17, getD18, getD19, Bool.not_true, Bool.not_false, Bool.false_eq_true, Bool.true_eq_false, ↓reduceIte, decide_true, decide_false, Option.isNone_some, Option.isNone_none, Option.isSome_some, Option.isSome_none, beq_self_eq_true, bne_self_eq_false, Bool.and_true, Bool.true_and, Bool.and_false, Bool.false_and, not_true_eq_false, not_false_eq_true]
  · rw [k1] at lk
    have hv : tvOf (fs.map PE.ab) r.tx = tv0 := by unfold tvOf; rw [k2]; rfl
    rw [hv] at hn hs
    have hD : (none : Option Value).getD (.pointer none) = .pointer none := rfl
    have fa : Fr [] v.drew (v.drew.alloc (.cells #[.int .i64 0, .int .i64 0, .int .u64 0, .int .i64 0, .slice none 0 0, .int .i64 (-1), .int .u64 0, .bool false] 46)) := Fr.alloc _
    have pn := Blk.new v.drew (tv0.cs (none, 0, 0)) 46
    change Blk (v.drew.alloc (.cells #[.int .i64 0, .int .i64 0, .int .u64 0, .int .i64 0, .slice none 0 0, .int .i64 (-1), .int .u64 0, .bool false] 46)) _ _ _ at pn
    have za : (v.drew.alloc (.cells #[.int .i64 0, .int .i64 0, .int .u64 0, .int .i64 0, .slice none 0 0, .int .i64 (-1), .int .u64 0, .bool false] 46)).heap.size = v.drew.heap.size + 1 := Array.size_push _
    obtain ⟨y, hy⟩ : ∃ y, v.drew.alloc (.cells #[.int .i64 0, .int .i64 0, .int .u64 0, .int .i64 0, .slice none 0 0, .int .i64 (-1), .int .u64 0, .bool false] 46) = y := ⟨_, rfl⟩
    rw [hy] at fa pn za
    have fy := Fr.drew [] y
    have F2 : Fr [] v.drew y.drew := (Fr.mono (Fr.app fa fy) (by have z0_ := Fr.size fa; have z1_ := Fr.size fy; intro y_ hy_ hl_; grind [blkOf]))
    have pn2 := pn.fr fy (by simp)
    have m2 := h4.fr F2 (by simp)
    obtain ⟨u, eu, mu, fu⟩ := m2.upd (keyOk_int .i64) r.tx (.pointer (some ⟨v.drew.heap.size, 0, none⟩))
    rw [insA_new k1] at mu
    have tb2 := h2.fr F2 (by simp)
    have bb2 := bb.fr F2 (by simp)
    have sl2 := sl1.fr F2 (fun _ y _ => by simp)
    have r1 := m2.ne_blk tb2
    have r2 := m2.ne_blk pn2
    have r4 := m2.ne_blk bb2
    have F3 : Fr [rm] v.drew u := (Fr.mono (Fr.app F2 fu) (by have z0_ := Fr.size F2; have z1_ := Fr.size fu; intro y_ hy_ hl_; grind [blkOf]))
    have zu := F3.size
    have zu2 := fu.size
    have zv := F1.size
    have zy : y.drew.heap.size = v.drew.heap.size + 1 := za
    have pnu := pn2.fr fu (by simpa using r2.symm)
    have tbu := tb2.fr fu (by simpa using r1.symm)
    have bbu := bb2.fr fu (by simpa using r4.symm)
    have slu := sl2.fr fu (fun h0 z hz hm => by simp at hm; subst hm; exact (hrd (by simpa using h0) _ hz).1 h6)
    obtain ⟨f0, hf0⟩ : ∃ f0 : PE, f0 = ⟨r.tx, v.drew.heap.size, (none, 0, 0), tv0⟩ := ⟨_, rfl⟩
    have ok0 : PeOk u (fun z => D z ∨ z = v.drew.heap.size) f0 := by
      subst hf0
      exact ⟨pnu, Own.nil _ _ _, .inr rfl, by simp [blkOf]⟩
    have ps : Ps u (fun z => D z ∨ z = v.drew.heap.size) (fs ++ [f0]) := by
      refine h5.push (f := f0) (by intro j hj; rw [hf0]; exact k3 j hj) F3 ?_ (fun z hz => .inl hz) ok0 (by rw [hf0]; exact Nat.le_refl _) (by rw [hf0]; simp [blkOf])
      intro z hz j hj
      simp at hz; subst hz
      exact ⟨h4.ne_blk (h5.ok j hj).blk, h4.notin (h5.ok j hj).own⟩
    have hkeys : keysOf (fs ++ [f0]) = keysOf fs ++ [(r.tx, .pointer (some ⟨v.drew.heap.size, 0, none⟩))] := by subst hf0; simp [keysOf]
    have mu' : MapAt (Value.int .i64) u rm (keysOf (fs ++ [f0])) := by rw [hkeys]; exact mu
    have hlen : fs.length < (fs ++ [f0]).length := by simp
    have hget : (fs ++ [f0])[fs.length]'hlen = f0 := by simp
    have st : St u w.heap.size r rq v.drew.heap.size tv0 (none, 0, 0) := ⟨bbu, pnu, Own.nil _ _ _, slu, fun h0 z hz => ⟨by have := (hrd h0 z hz).2; omega, by simp [blkOf]⟩⟩
    obtain ⟨x', q', e, sb, so, F, k6⟩ := j8 st hn hs
    have hltu : ∀ z, (D z ∨ z = v.drew.heap.size) → z < u.heap.size := by
      intro z hz
      rcases hz with hz | hz
      · have := h1.lt z hz; omega
      · omega
    obtain ⟨D', ht, hc⟩ := tb_put (D := fun z => D z ∨ z = v.drew.heap.size) (f' := ⟨r.tx, v.drew.heap.size, q', stepT r tv0⟩) hlen tbu mu' ps (.inl h6) (.inl h1.db) hltu (by rw [hget, hf0]) (by rw [hget, hf0]) sb so (by rw [hget, hf0]; exact F) (by rw [hget, hf0]; exact k6)
    have c0 : Chg D v.drew u (fun z => D z ∨ z = v.drew.heap.size) := ⟨⟨[rm], F3, by intro z hz; simp at hz; subst hz; exact h6⟩, fun z hz => .inl hz, fun z hz => hz.imp id (fun hh => by omega)⟩
    have ea : apA (fs.map PE.ab) r = ((fs ++ [f0]).set fs.length ⟨r.tx, v.drew.heap.size, q', stepT r tv0⟩).map PE.ab := by
      unfold apA
      rw [k4]
      simp [PE.ab]
    rw [ea]
    refine ⟨x', D', call _ ?_, ht, hchg (c0.trans hc h1.lt)⟩
    have t2 : y.drew.cell? ⟨tb, 0, none⟩ = some (.map (some rm)) := tb2.cell 0
    have b2 : y.drew.cell? ⟨w.heap.size, 1, none⟩ = some (.int .i64 r.tx) := bb2.cell 1
    unfold g13
    simp only [hv1, addr_add, Nat.zero_add, t0, d1, lk, hD, hy, t2, b2, eu, e, obs, asP_pointer, asB_bool, asI_int, asS_string, asSl_slice, asM_map, asTup0, asTup1, asTup2, asTup3, asTup4, asTup5, asTup6, asTup7, asTup8, asTup9, asAgg2, asAgg3, asAgg4, asAgg5, asAgg6, asAgg7, asAgg8, asAgg9, asAgg12, getD0, getD1, getD2, getD3, getD4, getD5, getD6, getD7, getD8, getD9, getD10, getD11, getD12, getD13, getD14, getD15, getD16, getD17, getD18, getD19, Bool.not_true, Bool.not_false, Bool.false_eq_true, Bool.true_eq_false, ↓reduceIte, decide_true, decide_false, Option.isNone_some, Option.isNone_none, Option.isSome_some, Option.isSome_none, beq_self_eq_true, bne_self_eq_false, Bool.and_true, Bool.true_and, Bool.and_false, Bool.false_and, not_true_eq_false, not_false_eq_true]
end
end Go.Proofs.Ytlcojbodcbjkaaa
