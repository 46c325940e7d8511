/-
  ProdL: lemmas on what Go functions of this seat come to (for whatever arguments, as each says). No condition but those that stand in each lemma.
-/
import Derived.Test.YtliakpomlkgpnaaProdK
namespace Go.Proofs.Ytliakpomlkgpnaa
open Go Go.Ev
set_option maxRecDepth 100000
set_option linter.unusedVariables false
set_option linter.unusedSimpArgs false

/-- a newer epoch begins anew -/
def oldV (b : BV) (v : PV) : PV := if b.pe > v.1 then (b.pe, 0, [], v.2.2.2) else v
/-- what Apply makes of the table -/
def apA (A : List (Int × PV)) (abl : List Sn) (b : BV) : List (Int × PV) × List Sn :=
  if b.pid = 0 then (A, abl) else
  (kups A b.pid (fun o => stepV b (oldV b (o.getD (b.pe, 0, [], -1)))), stepB b (oldV b ((kget A b.pid).getD (b.pe, 0, [], -1))) abl)

section
variable {w0 x : World} {b : BV} {f : PE} {tb r : Nat} {q : Option Addr × Nat × Nat} {abl : List Sn}

theorem j10 (h : St2 x w0.heap.size b f tb r q abl) (hv : b.vs.length = b.q.2.1) (hl : f.last.length ≤ 5) (ha : abl.length ≤ 1954687338212) : ∃ x' q' f', g14_j10 w0 (some ⟨tb, 0, none⟩) (some ⟨f.pb, 0, none⟩) x = some (.tuple #[], x') ∧
    f'.pb = f.pb ∧ f'.pid = f.pid ∧ f'.pv = stepV b (oldV b f.pv) ∧ St2 x' w0.heap.size b f' tb r q' (stepB b (oldV b f.pv) abl) ∧ Fr (tb :: f.pb :: (blkOf q ++ blkOf f.q)) x x' ∧ (∀ y ∈ blkOf f'.q, y ∈ blkOf f.q ∨ x.heap.size ≤ y) ∧ (∀ y ∈ blkOf q', y ∈ blkOf q ∨ x.heap.size ≤ y) := by
  have fd := Fr.drew [] x
  have hd := h.fr fd
  have c3 := (cs9 hd.st.bb).c3
  have p0 : x.drew.cell? ⟨f.pb, 0, none⟩ = some (.int .i64 f.epoch) := hd.st.pe.cell 0
  by_cases hgt : b.pe > f.epoch
  · have ev : oldV b f.pv = (b.pe, 0, [], f.op) := by unfold oldV PE.pv; rw [if_pos hgt]
    have s1 : st1 x.drew ⟨f.pb, 0, none⟩ (.int .i64 b.pe) = some (x.drew.setCell ⟨f.pb, 0, none⟩ (.int .i64 b.pe)) := hd.st.pe.st1 (by simp [PE.cs]) rfl
    have f1 : Fr [f.pb] x.drew (x.drew.setCell ⟨f.pb, 0, none⟩ (.int .i64 b.pe)) := Fr.setCell
    have p1 := hd.st.pe.set 0 (.int .i64 b.pe)
    obtain ⟨x1, hx1⟩ : ∃ x1, x.drew.setCell ⟨f.pb, 0, none⟩ (.int .i64 b.pe) = x1 := ⟨_, rfl⟩
    rw [hx1] at s1 f1 p1
    have s2 : st1 x1 ⟨f.pb, 1, none⟩ (.int .i64 0) = some (x1.setCell ⟨f.pb, 1, none⟩ (.int .i64 0)) := p1.st1 (by simp [PE.cs]) rfl
    have f2 : Fr [f.pb] x1 (x1.setCell ⟨f.pb, 1, none⟩ (.int .i64 0)) := Fr.setCell
    have p2 := p1.set 1 (.int .i64 0)
    obtain ⟨x2, hx2⟩ : ∃ x2, x1.setCell ⟨f.pb, 1, none⟩ (.int .i64 0) = x2 := ⟨_, rfl⟩
    rw [hx2] at s2 f2 p2
    have s3 : st1 x2 ⟨f.pb, 2, none⟩ (.slice none 0 0) = some (x2.setCell ⟨f.pb, 2, none⟩ (.slice none 0 0)) := p2.st1 (by simp [PE.cs]) rfl
    have f3 : Fr [f.pb] x2 (x2.setCell ⟨f.pb, 2, none⟩ (.slice none 0 0)) := Fr.setCell
    have p3 := p2.set 2 (.slice none 0 0)
    obtain ⟨x3, hx3⟩ : ∃ x3, x2.setCell ⟨f.pb, 2, none⟩ (.slice none 0 0) = x3 := ⟨_, rfl⟩
    rw [hx3] at s3 f3 p3
    have F3 : Fr [f.pb] x x3 := (Fr.mono (Fr.app (Fr.app (Fr.app fd f1) f2) f3) (by have z0_ := Fr.size fd; have z1_ := Fr.size f1; have z2_ := Fr.size f2; have z3_ := Fr.size f3; intro y_ hy_ hl_; grind [blkOf]))
    have nq2 : f.pb ∉ blkOf q := h.st.pe.notin h.ab (by decide)
    have ng : w0.heap.size ≠ f.pb := h.st.bb.ne h.st.pe (by decide)
    have nt : tb ≠ f.pb := h.tbl.ne h.st.pe (by decide)
    have h3 : St2 x3 w0.heap.size b { f with epoch := b.pe, next := 0, q := (none, 0, 0), last := [] } tb r q abl :=
      ⟨⟨h.st.bb.fr F3 (by simpa using ng), p3, Own.nil _ _ _⟩, h.tbl.fr F3 (by simpa using nt), h.ab.fr F3 (by intro y hy hm; simp at hm; subst hm; exact nq2 hy)⟩
    obtain ⟨x', q', f', e, k1, k2, k3, k4, k5, k6, k7⟩ := j21 h3 hv (by simp) ha
    have z3 := F3.size
    rw [ev]
    refine ⟨x', q', f', ?_, k1, k2, k3, k4, (Fr.mono (Fr.app F3 k5) (by have z0_ := Fr.size F3; have z1_ := Fr.size k5; intro y_ hy_ hl_; grind [blkOf])), fun y hy => ?_, fun y hy => ?_⟩
    · unfold g14_j10
      simp only [addr_add, Nat.zero_add, c3, p0, hgt, s1, s2, s3, e, obs, asP_pointer, asB_bool, asI_int, asS_string, asSl_slice, asM_map, asTup0, asTup1, asTup2, asTup3, asTup4, asTup5, asTup6, asTup7, asTup8, asTup9, getD0, getD1, getD2, getD3, getD4, getD5, getD6, getD7, getD8, getD9, getD10, getD11, Bool.not_true, Bool.not_false, Bool.false_eq_true, Bool.true_eq_false, ↓reduceIte, decide_true, decide_false, Option.isNone_some, Option.isNone_none, Option.isSome_some, Option.isSome_none, beq_self_eq_true, bne_self_eq_false, Bool.and_true, Bool.true_and, Bool.and_false, Bool.false_and, not_true_eq_false, not_false_eq_true]
    · rcases k6 y hy with hh | hh
      · simp [blkOf] at hh
      · right; omega
    · rcases k7 y hy with hh | hh
      · exact .inl hh
      · right; omega
  · have ev : oldV b f.pv = f.pv := by unfold oldV; rw [if_neg (by exact hgt)]
    obtain ⟨x', q', f', e, k1, k2, k3, k4, k5, k6, k7⟩ := j21 hd hv hl ha
    rw [ev]
    refine ⟨x', q', f', ?_, k1, k2, k3, k4, (Fr.mono (Fr.app fd k5) (by have z0_ := Fr.size fd; have z1_ := Fr.size k5; intro y_ hy_ hl_; grind [blkOf])), k6, k7⟩
    unfold g14_j10
    simp only [addr_add, Nat.zero_add, c3, p0, hgt, e, obs, asP_pointer, asB_bool, asI_int, asS_string, asSl_slice, asM_map, asTup0, asTup1, asTup2, asTup3, asTup4, asTup5, asTup6, asTup7, asTup8, asTup9, getD0, getD1, getD2, getD3, getD4, getD5, getD6, getD7, getD8, getD9, getD10, getD11, Bool.not_true, Bool.not_false, Bool.false_eq_true, Bool.true_eq_false, ↓reduceIte, decide_true, decide_false, Option.isNone_some, Option.isNone_none, Option.isSome_some, Option.isSome_none, beq_self_eq_true, bne_self_eq_false, Bool.and_true, Bool.true_and, Bool.and_false, Bool.false_and, not_true_eq_false, not_false_eq_true]
end
end Go.Proofs.Ytliakpomlkgpnaa
