/-
  ProdJ: lemmas on what Go functions of this seat come to (for whatever arguments, as each says). No condition but those that stand in each lemma.
-/
import Derived.Test.YtliakpomlkgpnaaProdI
namespace Go.Proofs.Ytliakpomlkgpnaa
open Go Go.Ev
set_option maxRecDepth 100000
set_option linter.unusedVariables false
set_option linter.unusedSimpArgs false
section
variable {w0 x : World} {b : BV} {f : PE}

theorem j109 (h : St x w0.heap.size b f) (hv : b.vs.length = b.q.2.1) (hl : f.last.length ≤ 5) (a c : Int) : ∃ x' q', g14_j109 w0 (some ⟨f.pb, 0, none⟩) a c x = some (.tuple #[], x') ∧
    St x' w0.heap.size b { f with next := IntKind.i64.wrap (a + c), q := q', last := cut5 (f.last ++ [(b.seq, (b.sz : Int), b.base)]), op := if b.txn = true ∧ f.op < 0 then b.base else f.op } ∧ Fr (f.pb :: blkOf f.q) x x' ∧ (∀ y ∈ blkOf q', y ∈ blkOf f.q ∨ x.heap.size ≤ y) := by
  have nq : f.pb ∉ blkOf f.q := h.pe.notin h.own (by decide)
  have ngp : w0.heap.size ≠ f.pb := h.bb.ne h.pe (by decide)
  have s1 : st1 x ⟨f.pb, 1, none⟩ (.int .i64 (IntKind.i64.wrap (a + c))) = some (x.setCell ⟨f.pb, 1, none⟩ (.int .i64 (IntKind.i64.wrap (a + c)))) := h.pe.st1 (by simp [PE.cs]) rfl
  have f1 : Fr [f.pb] x (x.setCell ⟨f.pb, 1, none⟩ (.int .i64 (IntKind.i64.wrap (a + c)))) := Fr.setCell
  have pe1 := h.pe.set 1 (.int .i64 (IntKind.i64.wrap (a + c)))
  obtain ⟨v, hv1⟩ : ∃ v, x.setCell ⟨f.pb, 1, none⟩ (.int .i64 (IntKind.i64.wrap (a + c))) = v := ⟨_, rfl⟩
  rw [hv1] at s1 f1 pe1
  have st1' : St v w0.heap.size b { f with next := IntKind.i64.wrap (a + c) } := ⟨h.bb.fr f1 (by simpa using ngp), pe1, h.own.fr f1 (by intro y hy hm; simp at hm; subst hm; exact nq hy)⟩
  have fd := Fr.drew [] v
  have st2 := st1'.fr fd
  obtain ⟨_, fu⟩ := spill v.drew b
  have e20 := size20 v.drew hv
  obtain ⟨u, hu⟩ : ∃ u, v.drew.alloc (.cells #[.int .i64 b.base, .int .i64 b.ep, .int .u64 b.pid, .int .i64 b.pe, .int .i64 b.seq, .bool b.txn, .bool b.con, .bool b.com, .slice b.q.1 b.q.2.1 b.q.2.2] 30) = u := ⟨_, rfl⟩
  rw [hu] at e20 fu
  have e20' : callF Try.prog 20 #[.agg #[.int .i64 b.base, .int .i64 b.ep, .int .u64 b.pid, .int .i64 b.pe, .int .i64 b.seq, .bool b.txn, .bool b.con, .bool b.com, .slice b.q.1 b.q.2.1 b.q.2.2]] v.drew = some (.int .i64 (b.sz : Int), u) := e20
  have st3 := st2.fr fu
  obtain ⟨x', q', e, st', f', n'⟩ := j255 st3 hl (b.sz : Int) b.seq b.base
  have l9 : ldN v.drew ⟨w0.heap.size, 0, none⟩ 0 9 = some [.int .i64 b.base, .int .i64 b.ep, .int .u64 b.pid, .int .i64 b.pe, .int .i64 b.seq, .bool b.txn, .bool b.con, .bool b.com, .slice b.q.1 b.q.2.1 b.q.2.2] := blk_ldN st2.bb (n := 9) (by simp [BV.cs])
  obtain ⟨c0, _, _, _, c4, _, _, _, _⟩ := cs9 st2.bb
  obtain ⟨c0', _, _, _, c4', _, _, _, _⟩ := cs9 st3.bb
  have p2 : v.drew.cell? ⟨f.pb, 2, none⟩ = some (.slice f.q.1 f.q.2.1 f.q.2.2) := st2.pe.cell 2
  have p2' : u.cell? ⟨f.pb, 2, none⟩ = some (.slice f.q.1 f.q.2.1 f.q.2.2) := st3.pe.cell 2
  have p2a : (u.alloc (.cells #[.int .i64 b.seq, .int .i64 (b.sz : Int), .int .i64 b.base] 59)).cell? ⟨f.pb, 2, none⟩ = some (.slice f.q.1 f.q.2.1 f.q.2.2) := (st3.pe.fr (Fr.alloc _) (by simp)).cell 2
  have e' : g14_j264 w0 (some ⟨f.pb, 0, none⟩) f.q (some ⟨u.heap.size, 0, none⟩, 1, 1) (u.alloc (.cells #[.int .i64 b.seq, .int .i64 (b.sz : Int), .int .i64 b.base] 59)) = some (.tuple #[], x') := e
  refine ⟨x', q', ?_, st', ?_, ?_⟩
  have G0 : ∀ a b c d e f g h i : Value, [a, b, c, d, e, f, g, h, i].getD 0 undef = a := fun _ _ _ _ _ _ _ _ _ => rfl
  have G1 : ∀ a b c d e f g h i : Value, [a, b, c, d, e, f, g, h, i].getD 1 undef = b := fun _ _ _ _ _ _ _ _ _ => rfl
  have G2 : ∀ a b c d e f g h i : Value, [a, b, c, d, e, f, g, h, i].getD 2 undef = c := fun _ _ _ _ _ _ _ _ _ => rfl
  have G3 : ∀ a b c d e f g h i : Value, [a, b, c, d, e, f, g, h, i].getD 3 undef = d := fun _ _ _ _ _ _ _ _ _ => rfl
  have G4 : ∀ a b c d e f g h i : Value, [a, b, c, d, e, f, g, h, i].getD 4 undef = e := fun _ _ _ _ _ _ _ _ _ => rfl
  have G5 : ∀ a b c d e f g h i : Value, [a, b, c, d, e, f, g, h, i].getD 5 undef = f := fun _ _ _ _ _ _ _ _ _ => rfl
  have G6 : ∀ a b c d e f g h i : Value, [a, b, c, d, e, f, g, h, i].getD 6 undef = g := fun _ _ _ _ _ _ _ _ _ => rfl
  have G7 : ∀ a b c d e f g h i : Value, [a, b, c, d, e, f, g, h, i].getD 7 undef = h := fun _ _ _ _ _ _ _ _ _ => rfl
  have G8 : ∀ a b c d e f g h i : Value, [a, b, c, d, e, f, g, h, i].getD 8 undef = i := fun _ _ _ _ _ _ _ _ _ => rfl
  · obtain ⟨L, hL⟩ : ∃ L, Region.schedule true (opsOf (cAt [1, 1, 1, 1, 1, 1, 1, 0] (bodyOf Try.f14))) (World.tape v (World.drawn v) (.order 14 13)) = L := ⟨_, rfl⟩
    unfold g14_j109
    simp only [Option.bind_some, addr_add, Nat.zero_add, s1]
    rw [l9, Option.bind_some]
    simp only [G0, G1, G2, G3, G4, G5, G6, G7, G8, asI_int, asB_bool, asSl_slice, Option.bind_some]
    simp only [hL]
    simp only [addr_add, Nat.zero_add, c0, c4, c0', c4', p2, p2', p2a, e20', g14_j181, g14_j184, g14_j153, g14_j159, g14_j228, g14_j202, g14_j164, g14_j167, g14_j237, g14_j218, e, e', hL, ite_self, obs, asP_pointer, asB_bool, asI_int, asS_string, asSl_slice, asM_map, asTup0, asTup1, asTup2, asTup3, asTup4, asTup5, asTup6, asTup7, asTup8, asTup9, getD0, getD1, getD2, getD3, getD4, getD5, getD6, getD7, getD8, getD9, getD10, getD11, Bool.not_true, Bool.not_false, Bool.false_eq_true, Bool.true_eq_false, ↓reduceIte, decide_true, decide_false, Option.isNone_some, Option.isNone_none, Option.isSome_some, Option.isSome_none, beq_self_eq_true, bne_self_eq_false, Bool.and_true, Bool.true_and, Bool.and_false, Bool.false_and, not_true_eq_false, not_false_eq_true]
  · exact (Fr.mono (Fr.app (Fr.app (Fr.app f1 fd) fu) f') (by have z0_ := Fr.size f1; have z1_ := Fr.size fd; have z2_ := Fr.size fu; have z3_ := Fr.size f'; intro y_ hy_ hl_; grind [blkOf]))
  · intro y hy
    have z1 := f1.size
    have z2 := fd.size
    have z3 := fu.size
    rcases n' y hy with hh | hh
    · exact .inl hh
    · right; omega
end
end Go.Proofs.Ytliakpomlkgpnaa
