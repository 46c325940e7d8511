/-
  ProdK: lemmas on what Go functions of this seat come to (for whatever arguments, as each says). No condition but those that stand in each lemma.
-/
import Derived.Test.YtliakpomlkgpnaaProdJ
namespace Go.Proofs.Ytliakpomlkgpnaa
open Go Go.Ev
set_option maxRecDepth 100000
set_option linter.unusedVariables false
set_option linter.unusedSimpArgs false

/-- the batch, its producer, and the table, in memory -/
structure St2 (x : World) (g : Nat) (b : BV) (f : PE) (tb r : Nat) (q : Option Addr × Nat × Nat) (abl : List Sn) : Prop where
  st : St x g b f
  tbl : Blk x tb [.map (some r), .slice q.1 q.2.1 q.2.2] 51
  ab : Own x 63 3 q (abCs abl)
theorem St2.fr {x x' : World} {g : Nat} {b : BV} {f : PE} {tb r : Nat} {q : Option Addr × Nat × Nat} {abl : List Sn} (h : St2 x g b f tb r q abl) (hf : Fr [] x x') : St2 x' g b f tb r q abl := ⟨h.st.fr hf, h.tbl.fr hf (by simp), h.ab.fr hf (by simp)⟩

/-- what Apply makes of a producer, and of the aborted -/
def stepV (b : BV) (v : PV) : PV := if b.con then (v.1, v.2.1, v.2.2.1, -1) else (v.1, IntKind.i64.wrap (b.seq + (b.sz : Int)), cut5 (v.2.2.1 ++ [(b.seq, (b.sz : Int), b.base)]), if b.txn = true ∧ v.2.2.2 < 0 then b.base else v.2.2.2)
def stepB (b : BV) (v : PV) (abl : List Sn) : List Sn := if b.con = true ∧ v.2.2.2 ≥ 0 ∧ b.com = false then abl ++ [(b.pid, v.2.2.2, b.base)] else abl

theorem abCs_len (l : List Sn) : (abCs l).length = 3 * l.length := by
  induction l with
  | nil => rfl
  | cons s l ih => simp only [abCs, List.map_cons, List.flatten_cons, List.length_append, List.length_cons] at ih ⊢; rw [ih]; simp; omega

section
variable {w0 x : World} {b : BV} {f : PE} {tb r : Nat} {q : Option Addr × Nat × Nat} {abl : List Sn}

theorem j38 (h : St2 x w0.heap.size b f tb r q abl) : ∃ x', g14_j38 (some ⟨f.pb, 0, none⟩) x = some (.tuple #[], x') ∧ St2 x' w0.heap.size b { f with op := -1 } tb r q abl ∧ Fr [f.pb] x x' := by
  have nq : f.pb ∉ blkOf f.q := h.st.pe.notin h.st.own (by decide)
  have nq2 : f.pb ∉ blkOf q := h.st.pe.notin h.ab (by decide)
  have ng : w0.heap.size ≠ f.pb := h.st.bb.ne h.st.pe (by decide)
  have nt : tb ≠ f.pb := h.tbl.ne h.st.pe (by decide)
  have s3 : st1 x ⟨f.pb, 3, none⟩ (.int .i64 (-1)) = some (x.setCell ⟨f.pb, 3, none⟩ (.int .i64 (-1))) := h.st.pe.st1 (by simp [PE.cs]) rfl
  have fs : Fr [f.pb] x (x.setCell ⟨f.pb, 3, none⟩ (.int .i64 (-1))) := Fr.setCell
  refine ⟨_, ?_, ⟨⟨h.st.bb.fr fs (by simpa using ng), h.st.pe.set 3 (.int .i64 (-1)), h.st.own.fr fs (by intro y hy hm; simp at hm; subst hm; exact nq hy)⟩, h.tbl.fr fs (by simpa using nt), h.ab.fr fs (by intro y hy hm; simp at hm; subst hm; exact nq2 hy)⟩, fs⟩
  unfold g14_j38
  simp only [addr_add, Nat.zero_add, s3, obs, asP_pointer, asB_bool, asI_int, asS_string, asSl_slice, asM_map, asTup0, asTup1, asTup2, asTup3, asTup4, asTup5, asTup6, asTup7, asTup8, asTup9, getD0, getD1, getD2, getD3, getD4, getD5, getD6, getD7, getD8, getD9, getD10, getD11, Bool.not_true, Bool.not_false, Bool.false_eq_true, Bool.true_eq_false, ↓reduceIte, decide_true, decide_false, Option.isNone_some, Option.isNone_none, Option.isSome_some, Option.isSome_none, beq_self_eq_true, bne_self_eq_false, Bool.and_true, Bool.true_and, Bool.and_false, Bool.false_and, not_true_eq_false, not_false_eq_true]

theorem j21 (h : St2 x w0.heap.size b f tb r q abl) (hv : b.vs.length = b.q.2.1) (hl : f.last.length ≤ 5) (ha : abl.length ≤ 1954687338212) : ∃ x' q' f', g14_j21 w0 (some ⟨f.pb, 0, none⟩) (some ⟨tb, 0, none⟩) x = some (.tuple #[], x') ∧
    f'.pb = f.pb ∧ f'.pid = f.pid ∧ f'.pv = stepV b f.pv ∧ St2 x' w0.heap.size b f' tb r q' (stepB b f.pv abl) ∧ Fr (tb :: f.pb :: (blkOf q ++ blkOf f.q)) x x' ∧ (∀ y ∈ blkOf f'.q, y ∈ blkOf f.q ∨ x.heap.size ≤ y) ∧ (∀ y ∈ blkOf q', y ∈ blkOf q ∨ x.heap.size ≤ y) := by
  obtain ⟨c0, c1, c2, c3, c4, c5, c6, c7, c8⟩ := cs9 h.st.bb
  have p3 : x.cell? ⟨f.pb, 3, none⟩ = some (.int .i64 f.op) := h.st.pe.cell 3
  have fd := Fr.drew [] x
  have hd := h.fr fd
  obtain ⟨d0, d1, d2, d3, d4, d5, d6, d7, d8⟩ := cs9 hd.st.bb
  have p3d : x.drew.cell? ⟨f.pb, 3, none⟩ = some (.int .i64 f.op) := hd.st.pe.cell 3
  have hml : maxLen = 9223372036854775807 := by decide
  cases hcon : b.con with
  | true =>
    rw [hcon] at c6
    have ev : stepV b f.pv = (f.epoch, f.next, f.last, -1) := by unfold stepV; rw [hcon]; rfl
    by_cases ho : f.op ≥ 0
    · cases hcom : b.com with
      | true =>
        rw [hcom] at c7
        have eb : stepB b f.pv abl = abl := by unfold stepB; rw [if_neg (by simp [hcom])]
        obtain ⟨x', e, s', f'⟩ := j38 h
        refine ⟨x', q, { f with op := -1 }, ?_, rfl, rfl, ev.symm, by rw [eb]; exact s', (Fr.mono f' (by have z0_ := Fr.size f'; intro y_ hy_ hl_; grind [blkOf])), fun y hy => .inl hy, fun y hy => .inl hy⟩
        unfold g14_j21
        simp only [addr_add, Nat.zero_add, c6, p3, ho, c7, e, obs, asP_pointer, asB_bool, asI_int, asS_string, asSl_slice, asM_map, asTup0, asTup1, asTup2, asTup3, asTup4, asTup5, asTup6, asTup7, asTup8, asTup9, getD0, getD1, getD2, getD3, getD4, getD5, getD6, getD7, getD8, getD9, getD10, getD11, Bool.not_true, Bool.not_false, Bool.false_eq_true, Bool.true_eq_false, ↓reduceIte, decide_true, decide_false, Option.isNone_some, Option.isNone_none, Option.isSome_some, Option.isSome_none, beq_self_eq_true, bne_self_eq_false, Bool.and_true, Bool.true_and, Bool.and_false, Bool.false_and, not_true_eq_false, not_false_eq_true]
      | false =>
        rw [hcom] at c7
        have eb : stepB b f.pv abl = abl ++ [(b.pid, f.op, b.base)] := by unfold stepB; rw [if_pos ⟨hcon, ho, hcom⟩]; rfl
        have hql := h.ab.len
        rw [abCs_len] at hql
        obtain ⟨q1, x1, e1, o1, f1, n1, l1⟩ := app_one t42 hd.ab (ys := [.int .u64 b.pid, .int .i64 f.op, .int .i64 b.base]) rfl (by intro y hy; simp at hy; rcases hy with rfl | rfl | rfl <;> rfl) (by omega) (by omega) 42 #[false, false]
        have nt : tb ∉ blkOf q := h.tbl.notin h.ab (by decide)
        have np : f.pb ∉ blkOf q := h.st.pe.notin h.ab (by decide)
        have ng : w0.heap.size ∉ blkOf q := h.st.bb.notin h.ab (by decide)
        have nl : ∀ y ∈ blkOf f.q, y ∉ blkOf q := h.st.own.apart h.ab (by decide)
        have ntp : tb ≠ f.pb := h.tbl.ne h.st.pe (by decide)
        have ntg : w0.heap.size ≠ tb := h.st.bb.ne h.tbl (by decide)
        have ntl : tb ∉ blkOf f.q := h.tbl.notin h.st.own (by decide)
        have lt := h.tbl.lt
        have tb1 := hd.tbl.fr f1 nt
        have s2 : st1 x1 ⟨tb, 1, none⟩ (.slice q1.1 q1.2.1 q1.2.2) = some (x1.setCell ⟨tb, 1, none⟩ (.slice q1.1 q1.2.1 q1.2.2)) := tb1.st1 (by simp) rfl
        have f2 : Fr [tb] x1 (x1.setCell ⟨tb, 1, none⟩ (.slice q1.1 q1.2.1 q1.2.2)) := Fr.setCell
        have tb2 := tb1.set 1 (.slice q1.1 q1.2.1 q1.2.2)
        obtain ⟨x2, hx2⟩ : ∃ x2, x1.setCell ⟨tb, 1, none⟩ (.slice q1.1 q1.2.1 q1.2.2) = x2 := ⟨_, rfl⟩
        rw [hx2] at s2 f2 tb2
        simp only [List.set_cons_succ, List.set_cons_zero] at tb2
        have nt1 : tb ∉ blkOf q1 := fun hm => by
          rcases n1 _ hm with hh | hh
          · exact nt hh
          · have : x.drew.heap.size = x.heap.size := rfl
            omega
        have hsn : abCs abl ++ [.int .u64 b.pid, .int .i64 f.op, .int .i64 b.base] = abCs (abl ++ [(b.pid, f.op, b.base)]) := by simp [abCs]
        rw [hsn] at o1
        have st2 : St2 x2 w0.heap.size b f tb r q1 (abl ++ [(b.pid, f.op, b.base)]) :=
          ⟨⟨(hd.st.bb.fr f1 ng).fr f2 (by simpa using ntg), (hd.st.pe.fr f1 np).fr f2 (by simpa using ntp.symm), (hd.st.own.fr f1 nl).fr f2 (by intro y hy hm; simp at hm; subst hm; exact ntl hy)⟩, tb2, o1.fr f2 (by intro y hy hm; simp at hm; subst hm; exact nt1 hy)⟩
        obtain ⟨x3, e3, s3, f3⟩ := j38 st2
        have t1 : x.drew.cell? ⟨tb, 1, none⟩ = some (.slice q.1 q.2.1 q.2.2) := hd.tbl.cell 1
        have t1a : (x.drew.alloc (.cells #[.int .u64 b.pid, .int .i64 f.op, .int .i64 b.base] 63)).cell? ⟨tb, 1, none⟩ = some (.slice q.1 q.2.1 q.2.2) := (hd.tbl.fr (Fr.alloc _) (by simp)).cell 1
        have e1' : callB Try.prog .append #[42, 42] 42 #[false, false] #[.slice q.1 q.2.1 q.2.2, .slice (some ⟨x.drew.heap.size, 0, none⟩) 1 1] (x.drew.alloc (.cells #[.int .u64 b.pid, .int .i64 f.op, .int .i64 b.base] 63)) = some (.slice q1.1 q1.2.1 q1.2.2, x1) := e1
        refine ⟨x3, q1, { f with op := -1 }, ?_, rfl, rfl, ev.symm, by rw [eb]; exact s3, (Fr.mono (Fr.app (Fr.app (Fr.app fd f1) f2) f3) (by have z0_ := Fr.size fd; have z1_ := Fr.size f1; have z2_ := Fr.size f2; have z3_ := Fr.size f3; intro y_ hy_ hl_; grind [blkOf])), fun y hy => .inl hy, fun y hy => n1 y hy⟩
        obtain ⟨L, hL⟩ : ∃ L, Region.schedule true (opsOf (cAt [1, 1, 1, 1, 1, 0, 1, 0, 0, 1, 0] (bodyOf Try.f14))) (World.tape x (World.drawn x) (.order 14 10)) = L := ⟨_, rfl⟩
        unfold g14_j21
        simp only [addr_add, Nat.zero_add, c6, p3, ho, c7, d2, p3d, d0, hL, t1, t1a, g14_j68, g14_j73, e1', s2, e3, ite_self, obs, asP_pointer, asB_bool, asI_int, asS_string, asSl_slice, asM_map, asTup0, asTup1, asTup2, asTup3, asTup4, asTup5, asTup6, asTup7, asTup8, asTup9, getD0, getD1, getD2, getD3, getD4, getD5, getD6, getD7, getD8, getD9, getD10, getD11, Bool.not_true, Bool.not_false, Bool.false_eq_true, Bool.true_eq_false, ↓reduceIte, decide_true, decide_false, Option.isNone_some, Option.isNone_none, Option.isSome_some, Option.isSome_none, beq_self_eq_true, bne_self_eq_false, Bool.and_true, Bool.true_and, Bool.and_false, Bool.false_and, not_true_eq_false, not_false_eq_true]
    · have eb : stepB b f.pv abl = abl := by unfold stepB; rw [if_neg (by intro hh; exact ho hh.2.1)]
      obtain ⟨x', e, s', f'⟩ := j38 h
      refine ⟨x', q, { f with op := -1 }, ?_, rfl, rfl, ev.symm, by rw [eb]; exact s', (Fr.mono f' (by have z0_ := Fr.size f'; intro y_ hy_ hl_; grind [blkOf])), fun y hy => .inl hy, fun y hy => .inl hy⟩
      unfold g14_j21
      simp only [addr_add, Nat.zero_add, c6, p3, ho, e, obs, asP_pointer, asB_bool, asI_int, asS_string, asSl_slice, asM_map, asTup0, asTup1, asTup2, asTup3, asTup4, asTup5, asTup6, asTup7, asTup8, asTup9, getD0, getD1, getD2, getD3, getD4, getD5, getD6, getD7, getD8, getD9, getD10, getD11, Bool.not_true, Bool.not_false, Bool.false_eq_true, Bool.true_eq_false, ↓reduceIte, decide_true, decide_false, Option.isNone_some, Option.isNone_none, Option.isSome_some, Option.isSome_none, beq_self_eq_true, bne_self_eq_false, Bool.and_true, Bool.true_and, Bool.and_false, Bool.false_and, not_true_eq_false, not_false_eq_true]
  | false =>
    rw [hcon] at c6
    have ev : stepV b f.pv = (f.epoch, IntKind.i64.wrap (b.seq + (b.sz : Int)), cut5 (f.last ++ [(b.seq, (b.sz : Int), b.base)]), if b.txn = true ∧ f.op < 0 then b.base else f.op) := by unfold stepV; rw [hcon]; rfl
    have eb : stepB b f.pv abl = abl := by unfold stepB; rw [if_neg (by simp [hcon])]
    obtain ⟨_, fu⟩ := spill x.drew b
    have e20 := size20 x.drew hv
    obtain ⟨u, hu⟩ : ∃ u, x.drew.alloc (.cells #[.int .i64 b.base, .int .i64 b.ep, .int .u64 b.pid, .int .i64 b.pe, .int .i64 b.seq, .bool b.txn, .bool b.con, .bool b.com, .slice b.q.1 b.q.2.1 b.q.2.2] 30) = u := ⟨_, rfl⟩
    rw [hu] at e20 fu
    have e20' : callF Try.prog 20 #[.agg #[.int .i64 b.base, .int .i64 b.ep, .int .u64 b.pid, .int .i64 b.pe, .int .i64 b.seq, .bool b.txn, .bool b.con, .bool b.com, .slice b.q.1 b.q.2.1 b.q.2.2]] x.drew = some (.int .i64 (b.sz : Int), u) := e20
    have hu2 := hd.fr fu
    have c4u := (cs9 hu2.st.bb).c4
    obtain ⟨x', q', e, st', f', n'⟩ := j109 hu2.st hv hl b.seq (b.sz : Int)
    have nt : tb ≠ f.pb := h.tbl.ne h.st.pe (by decide)
    have ntl : tb ∉ blkOf f.q := h.tbl.notin h.st.own (by decide)
    have np : f.pb ∉ blkOf q := h.st.pe.notin h.ab (by decide)
    have nl : ∀ y ∈ blkOf f.q, y ∉ blkOf q := h.st.own.apart h.ab (by decide)
    have l9 : ldN x.drew ⟨w0.heap.size, 0, none⟩ 0 9 = some [.int .i64 b.base, .int .i64 b.ep, .int .u64 b.pid, .int .i64 b.pe, .int .i64 b.seq, .bool b.txn, .bool b.con, .bool b.com, .slice b.q.1 b.q.2.1 b.q.2.2] := blk_ldN hd.st.bb (n := 9) (by simp [BV.cs])
    refine ⟨x', q, { f with next := IntKind.i64.wrap (b.seq + (b.sz : Int)), q := q', last := cut5 (f.last ++ [(b.seq, (b.sz : Int), b.base)]), op := if b.txn = true ∧ f.op < 0 then b.base else f.op }, ?_, rfl, rfl, ev.symm, by rw [eb]; exact ⟨st', hu2.tbl.fr f' (by simp; exact ⟨nt, ntl⟩), hu2.ab.fr f' (by intro y hy hm; simp at hm; rcases hm with hm | hm; exact np (hm ▸ hy); exact nl y hm hy)⟩, (Fr.mono (Fr.app (Fr.app fd fu) f') (by have z0_ := Fr.size fd; have z1_ := Fr.size fu; have z2_ := Fr.size f'; intro y_ hy_ hl_; grind [blkOf])), ?_, fun y hy => .inl hy⟩
    have G0 : ∀ a b c d e f g h i : Value, [a, b, c, d, e, f, g, h, i].getD 0 undef = a := fun _ _ _ _ _ _ _ _ _ => rfl
    have G1 : ∀ a b c d e f g h i : Value, [a, b, c, d, e, f, g, h, i].getD 1 undef = b := fun _ _ _ _ _ _ _ _ _ => rfl
    have G2 : ∀ a b c d e f g h i : Value, [a, b, c, d, e, f, g, h, i].getD 2 undef = c := fun _ _ _ _ _ _ _ _ _ => rfl
    have G3 : ∀ a b c d e f g h i : Value, [a, b, c, d, e, f, g, h, i].getD 3 undef = d := fun _ _ _ _ _ _ _ _ _ => rfl
    have G4 : ∀ a b c d e f g h i : Value, [a, b, c, d, e, f, g, h, i].getD 4 undef = e := fun _ _ _ _ _ _ _ _ _ => rfl
    have G5 : ∀ a b c d e f g h i : Value, [a, b, c, d, e, f, g, h, i].getD 5 undef = f := fun _ _ _ _ _ _ _ _ _ => rfl
    have G6 : ∀ a b c d e f g h i : Value, [a, b, c, d, e, f, g, h, i].getD 6 undef = g := fun _ _ _ _ _ _ _ _ _ => rfl
    have G7 : ∀ a b c d e f g h i : Value, [a, b, c, d, e, f, g, h, i].getD 7 undef = h := fun _ _ _ _ _ _ _ _ _ => rfl
    have G8 : ∀ a b c d e f g h i : Value, [a, b, c, d, e, f, g, h, i].getD 8 undef = i := fun _ _ _ _ _ _ _ _ _ => rfl
    · obtain ⟨L, hL⟩ : ∃ L, Region.schedule true (opsOf (cAt [1, 1, 1, 1, 1, 1, 0] (bodyOf Try.f14))) (World.tape x (World.drawn x) (.order 14 12)) = L := ⟨_, rfl⟩
      unfold g14_j21
      simp only [addr_add, Nat.zero_add, c6, Option.bind_some, asB_bool, Bool.false_eq_true, if_false]
      rw [l9, Option.bind_some]
      simp only [G0, G1, G2, G3, G4, G5, G6, G7, G8, asI_int, asB_bool, asSl_slice, Option.bind_some]
      simp only [hL, addr_add, Nat.zero_add, d4, e20', c4u, e, ite_self, obs, asP_pointer, asB_bool, asI_int, asS_string, asSl_slice, asM_map, asTup0, asTup1, asTup2, asTup3, asTup4, asTup5, asTup6, asTup7, asTup8, asTup9, getD0, getD1, getD2, getD3, getD4, getD5, getD6, getD7, getD8, getD9, getD10, getD11, Bool.not_true, Bool.not_false, Bool.false_eq_true, Bool.true_eq_false, ↓reduceIte, decide_true, decide_false, Option.isNone_some, Option.isNone_none, Option.isSome_some, Option.isSome_none, beq_self_eq_true, bne_self_eq_false, Bool.and_true, Bool.true_and, Bool.and_false, Bool.false_and, not_true_eq_false, not_false_eq_true]
    · intro y hy
      have z2 := fd.size
      have z3 := fu.size
      rcases n' y hy with hh | hh
      · exact .inl hh
      · right; omega
end
end Go.Proofs.Ytliakpomlkgpnaa
