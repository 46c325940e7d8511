/-
  ProdI: lemmas on what Go functions of this seat come to (for whatever arguments, as each says). No condition but those that stand in each lemma.
-/
import Derived.Test.YtliakpomlkgpnaaProdH
namespace Go.Proofs.Ytliakpomlkgpnaa
open Go Go.Ev
set_option maxRecDepth 100000
set_option linter.unusedVariables false
set_option linter.unusedSimpArgs false

theorem t52 : TSl Try.prog 52 59 3 24 := tsl_of Try.underlying52 (by kernel_rfl)
theorem t42 : TSl Try.prog 42 63 3 24 := tsl_of Try.underlying42 (by kernel_rfl)

/-- the slice from its second on -/
theorem own_from1 {w : World} {e : TypeId} {n : Nat} {v : Option Addr × Nat × Nat} {xs : List Value} (h : Own w e n v xs) (h1 : 1 ≤ v.2.1) (h2 : v.2.2 ≠ 1) :
    Own w e n (v.1.map (·.add (1 * n)), v.2.1 - 1, v.2.2 - 1) (xs.drop n) := by
  have hl := h.len
  have hle := h.le
  have hmx := h.max
  have hmul : (v.2.1 - 1) * n = v.2.1 * n - n := by rw [Nat.sub_mul, Nat.one_mul]
  refine ⟨by rw [List.length_drop, hl]; exact hmul.symm, by show v.2.1 - 1 ≤ v.2.2 - 1; omega, by show v.2.2 - 1 ≤ maxLen; omega, ?_⟩
  rcases h.at_ with ⟨h3, h4⟩ | ⟨g, off, cur, h3, h4, h5, h6⟩
  · omega
  · refine .inr ⟨g, off + n, cur, ?_, h4, ?_, ?_⟩
    · rw [h3]; simp [addr_add]
    · show off + n + (v.2.2 - 1) * n ≤ cur.size
      have : (v.2.2 - 1) * n + n = v.2.2 * n := by
        rw [Nat.sub_mul, Nat.one_mul]
        have : n ≤ v.2.2 * n := Nat.le_mul_of_pos_left n (by omega)
        omega
      omega
    · show (cur.toList.drop (off + n)).take ((v.2.1 - 1) * n) = xs.drop n
      rw [← h6, List.drop_take, List.drop_drop, hmul]

/-- the batch and its producer, in memory -/
structure St (x : World) (g : Nat) (b : BV) (f : PE) : Prop where
  bb : Blk x g b.cs 30
  pe : Blk x f.pb f.cs 54
  own : Own x 59 3 f.q (seenCs f.last)

theorem St.fr {x x' : World} {g : Nat} {b : BV} {f : PE} (h : St x g b f) (hf : Fr [] x x') : St x' g b f := ⟨h.bb.fr hf (by simp), h.pe.fr hf (by simp), h.own.fr hf (by simp)⟩

def cut5 (l : List Sn) : List Sn := if l.length > 5 then l.drop 1 else l

section
variable {w0 x : World} {b : BV} {f : PE}

theorem j278 (h : St x w0.heap.size b f) : ∃ x', g14_j278 w0 (some ⟨f.pb, 0, none⟩) x = some (.tuple #[], x') ∧ St x' w0.heap.size b { f with op := if b.txn = true ∧ f.op < 0 then b.base else f.op } ∧ Fr [f.pb] x x' := by
  obtain ⟨c0, _, _, _, _, c5, _, _, _⟩ := cs9 h.bb
  have p3 : x.cell? ⟨f.pb, 3, none⟩ = some (.int .i64 f.op) := h.pe.cell 3
  have ng : w0.heap.size ≠ f.pb := h.bb.ne h.pe (by decide)
  have nq : f.pb ∉ blkOf f.q := h.pe.notin h.own (by decide)
  cases ht : b.txn with
  | true =>
    rw [ht] at c5
    by_cases hn : f.op < 0
    · have s3 : st1 x ⟨f.pb, 3, none⟩ (.int .i64 b.base) = some (x.setCell ⟨f.pb, 3, none⟩ (.int .i64 b.base)) := h.pe.st1 (by simp [PE.cs]) rfl
      have fs : Fr [f.pb] x (x.setCell ⟨f.pb, 3, none⟩ (.int .i64 b.base)) := Fr.setCell
      refine ⟨_, ?_, ⟨h.bb.fr fs (by simpa using ng), ?_, h.own.fr fs (by intro y hy hm; simp at hm; subst hm; exact nq hy)⟩, fs⟩
      · unfold g14_j278
        simp only [addr_add, Nat.zero_add, c5, p3, hn, c0, s3, obs, asP_pointer, asB_bool, asI_int, asS_string, asSl_slice, asM_map, asTup0, asTup1, asTup2, asTup3, asTup4, asTup5, asTup6, asTup7, asTup8, asTup9, getD0, getD1, getD2, getD3, getD4, getD5, getD6, getD7, getD8, getD9, getD10, getD11, Bool.not_true, Bool.not_false, Bool.false_eq_true, Bool.true_eq_false, ↓reduceIte, decide_true, decide_false, Option.isNone_some, Option.isNone_none, Option.isSome_some, Option.isSome_none, beq_self_eq_true, bne_self_eq_false, Bool.and_true, Bool.true_and, Bool.and_false, Bool.false_and, not_true_eq_false, not_false_eq_true]
      · have := h.pe.set 3 (.int .i64 b.base)
        simp only [hn, and_self, if_true]
        exact this
    · refine ⟨x, ?_, ?_, Fr.refl _ _⟩
      · unfold g14_j278
        simp only [addr_add, Nat.zero_add, c5, p3, hn, obs, asP_pointer, asB_bool, asI_int, asS_string, asSl_slice, asM_map, asTup0, asTup1, asTup2, asTup3, asTup4, asTup5, asTup6, asTup7, asTup8, asTup9, getD0, getD1, getD2, getD3, getD4, getD5, getD6, getD7, getD8, getD9, getD10, getD11, Bool.not_true, Bool.not_false, Bool.false_eq_true, Bool.true_eq_false, ↓reduceIte, decide_true, decide_false, Option.isNone_some, Option.isNone_none, Option.isSome_some, Option.isSome_none, beq_self_eq_true, bne_self_eq_false, Bool.and_true, Bool.true_and, Bool.and_false, Bool.false_and, not_true_eq_false, not_false_eq_true]
      · simp only [hn, and_false, if_false]; exact h
  | false =>
    rw [ht] at c5
    refine ⟨x, ?_, ?_, Fr.refl _ _⟩
    · unfold g14_j278
      simp only [addr_add, Nat.zero_add, c5, obs, asP_pointer, asB_bool, asI_int, asS_string, asSl_slice, asM_map, asTup0, asTup1, asTup2, asTup3, asTup4, asTup5, asTup6, asTup7, asTup8, asTup9, getD0, getD1, getD2, getD3, getD4, getD5, getD6, getD7, getD8, getD9, getD10, getD11, Bool.not_true, Bool.not_false, Bool.false_eq_true, Bool.true_eq_false, ↓reduceIte, decide_true, decide_false, Option.isNone_some, Option.isNone_none, Option.isSome_some, Option.isSome_none, beq_self_eq_true, bne_self_eq_false, Bool.and_true, Bool.true_and, Bool.and_false, Bool.false_and, not_true_eq_false, not_false_eq_true]
    · simp only [Bool.false_eq_true, false_and, if_false]; exact h

theorem j255 (h : St x w0.heap.size b f) (hl : f.last.length ≤ 5) (sz : Int) (seq base : Int) : ∃ x' q', g14_j255 w0 (some ⟨f.pb, 0, none⟩) f.q seq sz base x = some (.tuple #[], x') ∧
    St x' w0.heap.size b { f with q := q', last := cut5 (f.last ++ [(seq, sz, base)]), op := if b.txn = true ∧ f.op < 0 then b.base else f.op } ∧ Fr (f.pb :: blkOf f.q) x x' ∧ (∀ y ∈ blkOf q', y ∈ blkOf f.q ∨ x.heap.size ≤ y) := by
  have hol := h.own.len
  rw [seenCs_len] at hol
  have hml : maxLen = 9223372036854775807 := by decide
  obtain ⟨q1, x1, e1, o1, f1, n1, l1⟩ := app_one t52 h.own (ys := tri (seq, sz, base)) rfl (by intro y hy; simp [tri] at hy; rcases hy with rfl | rfl | rfl <;> rfl) (by omega) (by omega) 52 #[false, false]
  have nq : f.pb ∉ blkOf f.q := h.pe.notin h.own (by decide)
  have ng : w0.heap.size ∉ blkOf f.q := h.bb.notin h.own (by decide)
  have ngp : w0.heap.size ≠ f.pb := h.bb.ne h.pe (by decide)
  have pe1 := h.pe.fr f1 nq
  have bb1 := h.bb.fr f1 ng
  have ltp := h.pe.lt
  have ltg := h.bb.lt
  have s2 : st1 x1 ⟨f.pb, 2, none⟩ (.slice q1.1 q1.2.1 q1.2.2) = some (x1.setCell ⟨f.pb, 2, none⟩ (.slice q1.1 q1.2.1 q1.2.2)) := pe1.st1 (by simp [PE.cs]) rfl
  have f2 : Fr [f.pb] x1 (x1.setCell ⟨f.pb, 2, none⟩ (.slice q1.1 q1.2.1 q1.2.2)) := Fr.setCell
  have pe2 := pe1.set 2 (.slice q1.1 q1.2.1 q1.2.2)
  obtain ⟨x2, hx2⟩ : ∃ x2, x1.setCell ⟨f.pb, 2, none⟩ (.slice q1.1 q1.2.1 q1.2.2) = x2 := ⟨_, rfl⟩
  rw [hx2] at s2 f2 pe2
  have np1 : f.pb ∉ blkOf q1 := fun hm => by rcases n1 _ hm with hh | hh; exact nq hh; omega
  have o2 := o1.fr f2 (by intro y hy hm; simp at hm; subst hm; exact np1 hy)
  have bb2 := bb1.fr f2 (by simpa using ngp)
  have hsn : seenCs f.last ++ tri (seq, sz, base) = seenCs (f.last ++ [(seq, sz, base)]) := by simp [seenCs]
  rw [hsn] at o2
  have p2 : x2.cell? ⟨f.pb, 2, none⟩ = some (.slice q1.1 q1.2.1 q1.2.2) := pe2.cell 2
  have e1' : callB Try.prog .append #[52, 52] 52 #[false, false] #[.slice f.q.1 f.q.2.1 f.q.2.2, .slice (some ⟨x.heap.size, 0, none⟩) 1 1] (x.alloc (.cells #[.int .i64 seq, .int .i64 sz, .int .i64 base] 59)) = some (.slice q1.1 q1.2.1 q1.2.2, x1) := e1
  have F2 : Fr (f.pb :: blkOf f.q) x x2 := (Fr.mono (Fr.app f1 f2) (by have z0_ := Fr.size f1; have z1_ := Fr.size f2; intro y_ hy_ hl_; grind [blkOf]))
  by_cases h5 : f.last.length = 5
  · have hq : ((q1.2.1 : Nat) : Int) > 5 := by omega
    have hle := o2.le
    have hs := slc_from (u := q1) (n := 3) (i := 1) (by omega) hle
    rw [if_neg (by omega)] at hs
    have o3 := own_from1 o2 (by omega) (by omega)
    have hd : (seenCs (f.last ++ [(seq, sz, base)])).drop 3 = seenCs (cut5 (f.last ++ [(seq, sz, base)])) := by
      unfold cut5
      rw [if_pos (by simp; omega)]
      cases f.last with
      | nil => rfl
      | cons a l => simp [seenCs, tri]
    rw [hd] at o3
    obtain ⟨q3, hq3⟩ : ∃ q3 : Option Addr × Nat × Nat, (q1.1.map (·.add (1 * 3)), q1.2.1 - 1, q1.2.2 - 1) = q3 := ⟨_, rfl⟩
    rw [hq3] at hs o3
    have hb3 : ∀ y ∈ blkOf q3, y ∈ blkOf q1 := by
      intro y hy
      subst hq3
      cases hq : q1.1 with
      | none => rw [hq] at hy; simp [blkOf] at hy
      | some a => rw [hq] at hy; simp [blkOf, hq, Addr.add] at hy ⊢; grind
    have np3 : f.pb ∉ blkOf q3 := fun hm => np1 (hb3 _ hm)
    have s3 : st1 x2 ⟨f.pb, 2, none⟩ (.slice q3.1 q3.2.1 q3.2.2) = some (x2.setCell ⟨f.pb, 2, none⟩ (.slice q3.1 q3.2.1 q3.2.2)) := pe2.st1 (by simp [PE.cs]) rfl
    have f3 : Fr [f.pb] x2 (x2.setCell ⟨f.pb, 2, none⟩ (.slice q3.1 q3.2.1 q3.2.2)) := Fr.setCell
    have pe3 := pe2.set 2 (.slice q3.1 q3.2.1 q3.2.2)
    obtain ⟨x3, hx3⟩ : ∃ x3, x2.setCell ⟨f.pb, 2, none⟩ (.slice q3.1 q3.2.1 q3.2.2) = x3 := ⟨_, rfl⟩
    rw [hx3] at s3 f3 pe3
    have st : St x3 w0.heap.size b { f with q := q3, last := cut5 (f.last ++ [(seq, sz, base)]) } := ⟨bb2.fr f3 (by simpa using ngp), pe3, o3.fr f3 (by intro y hy hm; simp at hm; subst hm; exact np3 hy)⟩
    obtain ⟨x4, e4, st4, f4⟩ := j278 st
    refine ⟨x4, q3, ?_, st4, (Fr.mono (Fr.app (Fr.app F2 f3) f4) (by have z0_ := Fr.size F2; have z1_ := Fr.size f3; have z2_ := Fr.size f4; intro y_ hy_ hl_; grind [blkOf])), fun y hy => n1 y (hb3 y hy)⟩
    unfold g14_j255 g14_j264
    simp only [Int.ofNat_one] at hs
    simp only [e1', s2, addr_add, Nat.zero_add, p2, hq, hs, s3, e4, obs, asP_pointer, asB_bool, asI_int, asS_string, asSl_slice, asM_map, asTup0, asTup1, asTup2, asTup3, asTup4, asTup5, asTup6, asTup7, asTup8, asTup9, getD0, getD1, getD2, getD3, getD4, getD5, getD6, getD7, getD8, getD9, getD10, getD11, Bool.not_true, Bool.not_false, Bool.false_eq_true, Bool.true_eq_false, ↓reduceIte, decide_true, decide_false, Option.isNone_some, Option.isNone_none, Option.isSome_some, Option.isSome_none, beq_self_eq_true, bne_self_eq_false, Bool.and_true, Bool.true_and, Bool.and_false, Bool.false_and, not_true_eq_false, not_false_eq_true]
  · have hq : ¬ ((q1.2.1 : Nat) : Int) > 5 := by omega
    have hd : cut5 (f.last ++ [(seq, sz, base)]) = f.last ++ [(seq, sz, base)] := by unfold cut5; rw [if_neg (by simp; omega)]
    rw [hd]
    have st : St x2 w0.heap.size b { f with q := q1, last := f.last ++ [(seq, sz, base)] } := ⟨bb2, pe2, o2⟩
    obtain ⟨x4, e4, st4, f4⟩ := j278 st
    refine ⟨x4, q1, ?_, st4, (Fr.mono (Fr.app F2 f4) (by have z0_ := Fr.size F2; have z1_ := Fr.size f4; intro y_ hy_ hl_; grind [blkOf])), n1⟩
    unfold g14_j255 g14_j264
    simp only [e1', s2, addr_add, Nat.zero_add, p2, hq, e4, obs, asP_pointer, asB_bool, asI_int, asS_string, asSl_slice, asM_map, asTup0, asTup1, asTup2, asTup3, asTup4, asTup5, asTup6, asTup7, asTup8, asTup9, getD0, getD1, getD2, getD3, getD4, getD5, getD6, getD7, getD8, getD9, getD10, getD11, Bool.not_true, Bool.not_false, Bool.false_eq_true, Bool.true_eq_false, ↓reduceIte, decide_true, decide_false, Option.isNone_some, Option.isNone_none, Option.isSome_some, Option.isSome_none, beq_self_eq_true, bne_self_eq_false, Bool.and_true, Bool.true_and, Bool.and_false, Bool.false_and, not_true_eq_false, not_false_eq_true]
end
end Go.Proofs.Ytliakpomlkgpnaa
