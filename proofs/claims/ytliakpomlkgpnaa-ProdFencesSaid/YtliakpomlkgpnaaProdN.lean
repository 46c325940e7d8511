/-
  ProdN: lemmas on what Go functions of this seat come to (for whatever arguments, as each says). No condition but those that stand in each lemma.
-/
import Derived.Test.YtliakpomlkgpnaaProdL
namespace Go.Proofs.Ytliakpomlkgpnaa
open Go Go.Ev
set_option maxRecDepth 100000
set_option linter.unusedVariables false
set_option linter.unusedSimpArgs false

theorem own_lt {w : World} {e : TypeId} {n : Nat} {v : Option Addr × Nat × Nat} {xs : List Value} (h : Own w e n v xs) : ∀ y ∈ blkOf v, y < w.heap.size := by
  intro y hy
  rcases h.at_ with ⟨h1, _⟩ | ⟨g, off, cur, h1, h2, _⟩
  · simp [blkOf, h1] at hy
  · simp only [blkOf, h1] at hy
    have : y = g := by simpa using hy
    subst this
    exact (Array.getElem?_eq_some_iff.mp h2).1

section
variable {w : World} {D : Nat → Prop} {tb : Nat} {A : List (Int × PV)} {abl : List Sn} {b : BV}

/-- a producer that is known was worked upon -/
theorem tb_put {x x' : World} {r : Nat} {q q' : Option Addr × Nat × Nat} {fs : List PE} {abl' : List Sn} {i : Nat} (hi : i < fs.length) {f' : PE} {g : Nat}
    (h2 : Blk x tb [.map (some r), .slice q.1 q.2.1 q.2.2] 51) (h3 : Own x 63 3 q (abCs abl)) (h4 : MapAt (Value.int .u64) x r (keysOf fs)) (h5 : Ps x D fs) (h6 : D r) (h7 : ∀ y ∈ blkOf q, D y) (hdb : D tb) (hlt : ∀ y, D y → y < x.heap.size)
    (n1 : f'.pb = fs[i].pb) (n2 : f'.pid = fs[i].pid) (s : St2 x' g b f' tb r q' abl') (F : Fr (tb :: fs[i].pb :: (blkOf q ++ blkOf fs[i].q)) x x') (k6 : ∀ y ∈ blkOf f'.q, y ∈ blkOf fs[i].q ∨ x.heap.size ≤ y) (k7 : ∀ y ∈ blkOf q', y ∈ blkOf q ∨ x.heap.size ≤ y) :
    ∃ D', Tb x' D' tb ((fs.set i f').map PE.ab) abl' ∧ Chg D x x' D' := by
  have ok0 := h5.ok i hi
  have z := F.size
  have lq := own_lt s.ab
  have lf := own_lt s.st.own
  have hD : ∀ y, D y → (D y ∨ x.heap.size ≤ y ∧ y < x'.heap.size) := fun y hy => .inl hy
  have hk : keysOf (fs.set i f') = keysOf fs := by
    unfold keysOf
    rw [List.map_set]
    have : (f'.pid, Value.pointer (some ⟨f'.pb, 0, none⟩)) = (fs.map fun f => (f.pid, Value.pointer (some ⟨f.pb, 0, none⟩)))[i]'(by simpa using hi) := by simp [n1, n2]
    rw [this]
    exact List.set_getElem_self _
  refine ⟨fun y => D y ∨ x.heap.size ≤ y ∧ y < x'.heap.size, ⟨⟨r, q', fs.set i f', rfl, s.tbl, s.ab, ?_, ?_, .inl h6, ?_⟩, .inl hdb, ?_⟩, ⟨⟨_, F, ?_⟩, hD, ?_⟩⟩
  · rw [hk]
    refine h4.fr F ?_
    have a1 := h4.ne_blk h2
    have a2 := h4.ne_blk ok0.blk
    have a3 := h4.notin h3
    have a4 := h4.notin ok0.own
    simp only [List.mem_cons, List.mem_append]
    rintro (hh | hh | hh | hh)
    · exact a1 hh
    · exact a2 hh
    · exact a3 hh
    · exact a4 hh
  · refine h5.set hi n2 n1 F ?_ hD ?_ k6
    · intro y hy
      simp only [List.mem_cons, List.mem_append] at hy
      rcases hy with hh | hh | hh | hh
      · right; right; intro j hj
        subst hh
        exact ⟨h2.ne (h5.ok j hj).blk (by decide), h2.notin (h5.ok j hj).own (by decide)⟩
      · exact .inl hh
      · right; right; intro j hj
        exact ⟨fun e => (h5.ok j hj).blk.notin h3 (by decide) (e ▸ hh), fun hm => h3.apart (h5.ok j hj).own (by decide) y hh hm⟩
      · exact .inr (.inl hh)
    · refine ⟨s.st.pe, s.st.own, .inl (n1 ▸ ok0.reg.1), fun y hy => ?_⟩
      rcases k6 y hy with hh | hh
      · exact .inl (ok0.reg.2 y hh)
      · exact .inr ⟨hh, lf y hy⟩
  · intro y hy
    rcases k7 y hy with hh | hh
    · exact .inl (h7 y hh)
    · exact .inr ⟨hh, lq y hy⟩
  · intro y hy
    rcases hy with hy | hy
    · have := hlt y hy; omega
    · exact hy.2
  · intro y hy
    simp only [List.mem_cons, List.mem_append] at hy
    rcases hy with hh | hh | hh | hh
    · exact hh ▸ hdb
    · exact hh ▸ ok0.reg.1
    · exact h7 y hh
    · exact ok0.reg.2 y hh
  · intro y hy
    rcases hy with hy | hy
    · exact .inl hy
    · exact .inr hy.1

theorem apply14 (h : Tb w D tb A abl) (hb : BOk w b) (hlast : ∀ v ∈ A, v.2.2.2.1.length ≤ 5) (ha : abl.length ≤ 1954687338212) :
    ∃ w' D', callF Try.prog 14 #[.pointer (some ⟨tb, 0, none⟩), b.arg] w = some (.tuple #[], w') ∧ Tb w' D' tb (apA A abl b).1 (apA A abl b).2 ∧ Chg D w w' D' := by
  obtain ⟨s1, f1⟩ := spill w b
  obtain ⟨v, hv1⟩ : ∃ v, w.alloc (.cells #[.int .i64 b.base, .int .i64 b.ep, .int .u64 b.pid, .int .i64 b.pe, .int .i64 b.seq, .bool b.txn, .bool b.con, .bool b.com, .slice b.q.1 b.q.2.1 b.q.2.2] 30) = v := ⟨_, rfl⟩
  rw [hv1] at s1 f1
  have call := fun r => g14_call (u0 := some ⟨tb, 0, none⟩) (u1c0 := b.base) (u1c1 := b.ep) (u1c2 := b.pid) (u1c3 := b.pe) (u1c4 := b.seq) (u1c5 := b.txn) (u1c6 := b.con) (u1c7 := b.com) (u1c8 := b.q) (w0 := w) (r := r)
  have c2 := (cs9 s1).c2
  have hvl := hb.len
  by_cases hp : b.pid = 0
  · have hp0 : (b.pid == 0) = true := by simp [hp]
    refine ⟨v, D, call _ ?_, ?_, ⟨[], f1, by simp⟩, fun _ => id, fun _ => .inl⟩
    · unfold g14
      simp only [hv1, addr_add, Nat.zero_add, c2, hp0, obs, asP_pointer, asB_bool, asI_int, asS_string, asSl_slice, asM_map, asTup0, asTup1, asTup2, asTup3, asTup4, asTup5, asTup6, asTup7, asTup8, asTup9, getD0, getD1, getD2, getD3, getD4, getD5, getD6, getD7, getD8, getD9, getD10, getD11, Bool.not_true, Bool.not_false, Bool.false_eq_true, Bool.true_eq_false, ↓reduceIte, decide_true, decide_false, Option.isNone_some, Option.isNone_none, Option.isSome_some, Option.isSome_none, beq_self_eq_true, bne_self_eq_false, Bool.and_true, Bool.true_and, Bool.and_false, Bool.false_and, not_true_eq_false, not_false_eq_true]
    · unfold apA; rw [if_pos hp]; exact h.fr f1 (by simp)
  have hp0 : (b.pid == 0) = false := by simp [hp]
  have fd := Fr.drew [] v
  have F1 : Fr [] w v.drew := (Fr.mono (Fr.app f1 fd) (by have z0_ := Fr.size f1; have z1_ := Fr.size fd; intro y_ hy_ hl_; grind [blkOf]))
  have bb := s1.fr fd (by simp)
  have h1 := h.fr F1 (by simp)
  obtain ⟨r, q, fs, rfl, h2, h3, h4, h5, h6, h7⟩ := h1.ex
  have t0 : v.drew.cell? ⟨tb, 0, none⟩ = some (.map (some r)) := h2.cell 0
  have d2 := (cs9 bb).c2
  have d3 := (cs9 bb).c3
  have lk := look_pid h4 b.pid
  have hchg : ∀ {x' : World} {D' : Nat → Prop}, Chg D v.drew x' D' → Chg D w x' D' := by
    intro x' D' c
    obtain ⟨S, f, hS⟩ := c.fr
    have n := c.new
    have z := F1.size
    exact ⟨⟨S, (Fr.mono (Fr.app F1 f) (by have z0_ := Fr.size F1; have z1_ := Fr.size f; intro y_ hy_ hl_; grind [blkOf])), hS⟩, c.up, fun y hy => (n y hy).imp id (fun hh => by omega)⟩
  rcases keysOf_get fs b.pid with ⟨i, hi, k1, k2, k3, k4⟩ | ⟨k1, k2, k3, k4⟩
  · rw [k2] at lk
    have st : St2 v.drew w.heap.size b fs[i] tb r q abl := ⟨⟨bb, (h5.ok i hi).blk, (h5.ok i hi).own⟩, h2, h3⟩
    have hl5 : fs[i].last.length ≤ 5 := hlast fs[i].ab (List.mem_map.mpr ⟨fs[i], List.getElem_mem hi, rfl⟩)
    obtain ⟨x', q', f', e, n1, n2, n3, s, F, k6, k7⟩ := j10 st hvl hl5 ha
    obtain ⟨D', ht, hc⟩ := tb_put hi h2 h3 h4 h5 h6 h7 h1.db h1.lt n1 n2 s F k6 k7
    have ea : apA (fs.map PE.ab) abl b = ((fs.set i f').map PE.ab, stepB b (oldV b fs[i].pv) abl) := by
      unfold apA
      rw [if_neg hp, k3, k4, List.map_set]
      have : f'.ab = (b.pid, stepV b (oldV b fs[i].pv)) := by unfold PE.ab; rw [n2, n3, k1]
      rw [this]; rfl
    rw [ea]
    refine ⟨x', D', call _ ?_, ht, hchg hc⟩
    have hD : ∀ x : Value, (some x).getD (.pointer none) = x := fun _ => rfl
    unfold g14
    simp only [hv1, addr_add, Nat.zero_add, c2, hp0, t0, d2, lk, hD, e, obs, asP_pointer, asB_bool, asI_int, asS_string, asSl_slice, asM_map, asTup0, asTup1, asTup2, asTup3, asTup4, asTup5, asTup6, asTup7, asTup8, asTup9, getD0, getD1, getD2, getD3, getD4, getD5, getD6, getD7, getD8, getD9, getD10, getD11, Bool.not_true, Bool.not_false, Bool.false_eq_true, Bool.true_eq_false, ↓reduceIte, decide_true, decide_false, Option.isNone_some, Option.isNone_none, Option.isSome_some, Option.isSome_none, beq_self_eq_true, bne_self_eq_false, Bool.and_true, Bool.true_and, Bool.and_false, Bool.false_and, not_true_eq_false, not_false_eq_true]
  · rw [k1] at lk
    have hD : (none : Option Value).getD (.pointer none) = .pointer none := rfl
    have fa : Fr [] v.drew (v.drew.alloc (.cells #[.int .i64 b.pe, .int .i64 0, .slice none 0 0, .int .i64 (-1)] 54)) := Fr.alloc _
    have pn := Blk.new v.drew [.int .i64 b.pe, .int .i64 0, .slice none 0 0, .int .i64 (-1)] 54
    change Blk (v.drew.alloc (.cells #[.int .i64 b.pe, .int .i64 0, .slice none 0 0, .int .i64 (-1)] 54)) _ _ _ at pn
    have za : (v.drew.alloc (.cells #[.int .i64 b.pe, .int .i64 0, .slice none 0 0, .int .i64 (-1)] 54)).heap.size = v.drew.heap.size + 1 := Array.size_push _
    obtain ⟨y, hy⟩ : ∃ y, v.drew.alloc (.cells #[.int .i64 b.pe, .int .i64 0, .slice none 0 0, .int .i64 (-1)] 54) = y := ⟨_, rfl⟩
    rw [hy] at fa pn za
    have fy := Fr.drew [] y
    have F2 : Fr [] v.drew y.drew := (Fr.mono (Fr.app fa fy) (by have z0_ := Fr.size fa; have z1_ := Fr.size fy; intro y_ hy_ hl_; grind [blkOf]))
    have pn2 := pn.fr fy (by simp)
    have m2 := h4.fr F2 (by simp)
    obtain ⟨u, eu, mu, fu⟩ := m2.upd (keyOk_int .u64) b.pid (.pointer (some ⟨v.drew.heap.size, 0, none⟩))
    rw [insA_new k1] at mu
    have tb2 := h2.fr F2 (by simp)
    have ab2 := h3.fr F2 (by simp)
    have bb2 := bb.fr F2 (by simp)
    have r1 := m2.ne_blk tb2
    have r2 := m2.ne_blk pn2
    have r3 := m2.notin ab2
    have r4 := m2.ne_blk bb2
    have F3 : Fr [r] v.drew u := (Fr.mono (Fr.app F2 fu) (by have z0_ := Fr.size F2; have z1_ := Fr.size fu; intro y_ hy_ hl_; grind [blkOf]))
    have zu := F3.size
    have zu2 := fu.size
    have zy : y.drew.heap.size = v.drew.heap.size + 1 := za
    have pnu := pn2.fr fu (by simpa using r2.symm)
    have tbu := tb2.fr fu (by simpa using r1.symm)
    have abu := ab2.fr fu (by intro z hz hm; simp at hm; subst hm; exact r3 hz)
    have bbu := bb2.fr fu (by simpa using r4.symm)
    obtain ⟨f0, hf0⟩ : ∃ f0 : PE, f0 = ⟨b.pid, v.drew.heap.size, (none, 0, 0), b.pe, 0, [], -1⟩ := ⟨_, rfl⟩
    have ok0 : PeOk u (fun z => D z ∨ z = v.drew.heap.size) f0 := by
      subst hf0
      exact ⟨pnu, Own.nil _ _ _, .inr rfl, by simp [blkOf]⟩
    have ps : Ps u (fun z => D z ∨ z = v.drew.heap.size) (fs ++ [f0]) := by
      refine h5.push (f := f0) (by intro j hj; rw [hf0]; exact k3 j hj) F3 ?_ (fun z hz => .inl hz) ok0 (by rw [hf0]; exact Nat.le_refl _) (by rw [hf0]; simp [blkOf])
      intro z hz j hj
      simp at hz; subst hz
      exact ⟨h4.ne_blk (h5.ok j hj).blk, h4.notin (h5.ok j hj).own⟩
    have hkeys : keysOf (fs ++ [f0]) = keysOf fs ++ [(b.pid, .pointer (some ⟨v.drew.heap.size, 0, none⟩))] := by subst hf0; simp [keysOf]
    have mu' : MapAt (Value.int .u64) u r (keysOf (fs ++ [f0])) := by rw [hkeys]; exact mu
    have hlen : fs.length < (fs ++ [f0]).length := by simp
    have hget : (fs ++ [f0])[fs.length]'hlen = f0 := by simp
    have st : St2 u w.heap.size b f0 tb r q abl := ⟨⟨bbu, ok0.blk, ok0.own⟩, tbu, abu⟩
    obtain ⟨x', q', f', e, n1, n2, n3, s, F, k6, k7⟩ := j10 st hvl (by rw [hf0]; simp) ha
    have hltu : ∀ z, (D z ∨ z = v.drew.heap.size) → z < u.heap.size := by
      intro z hz
      rcases hz with hz | hz
      · have := h1.lt z hz; omega
      · omega
    obtain ⟨D', ht, hc⟩ := tb_put (D := fun z => D z ∨ z = v.drew.heap.size) hlen tbu abu mu' ps (.inl h6) (fun z hz => .inl (h7 z hz)) (.inl h1.db) hltu (by rw [hget]; exact n1) (by rw [hget]; exact n2) s (by rw [hget]; exact F) (by rw [hget]; exact k6) k7
    have c0 : Chg D v.drew u (fun z => D z ∨ z = v.drew.heap.size) := ⟨⟨[r], F3, by intro z hz; simp at hz; subst hz; exact h6⟩, fun z hz => .inl hz, fun z hz => hz.imp id (fun hh => by omega)⟩
    have p0 : f0.pv = (b.pe, 0, [], -1) := by subst hf0; rfl
    have ea : apA (fs.map PE.ab) abl b = (((fs ++ [f0]).set fs.length f').map PE.ab, stepB b (oldV b f0.pv) abl) := by
      unfold apA
      rw [if_neg hp, k2, k4, p0]
      have : f'.ab = (b.pid, stepV b (oldV b (b.pe, 0, [], -1))) := by unfold PE.ab; rw [n2, n3, p0, hf0]
      simp [this]
    rw [ea]
    refine ⟨x', D', call _ ?_, ht, hchg (c0.trans hc h1.lt)⟩
    have t2 : y.drew.cell? ⟨tb, 0, none⟩ = some (.map (some r)) := tb2.cell 0
    have b2 := (cs9 bb2).c2
    have hpb : f0.pb = v.drew.heap.size := by rw [hf0]
    rw [hpb] at e
    unfold g14
    simp only [hv1, addr_add, Nat.zero_add, c2, hp0, t0, d2, lk, hD, d3, hy, t2, b2, eu, e, obs, asP_pointer, asB_bool, asI_int, asS_string, asSl_slice, asM_map, asTup0, asTup1, asTup2, asTup3, asTup4, asTup5, asTup6, asTup7, asTup8, asTup9, getD0, getD1, getD2, getD3, getD4, getD5, getD6, getD7, getD8, getD9, getD10, getD11, Bool.not_true, Bool.not_false, Bool.false_eq_true, Bool.true_eq_false, ↓reduceIte, decide_true, decide_false, Option.isNone_some, Option.isNone_none, Option.isSome_some, Option.isSome_none, beq_self_eq_true, bne_self_eq_false, Bool.and_true, Bool.true_and, Bool.and_false, Bool.false_and, not_true_eq_false, not_false_eq_true]
end
end Go.Proofs.Ytliakpomlkgpnaa
