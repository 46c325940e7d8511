/-
  ProdFences: lemmas on what Go functions of this seat come to (for whatever arguments, as each says). No condition but those that stand in each lemma.
-/
import Derived.Test.YtliakpomlkgpnaaProdFenA
namespace Go.Proofs.Ytliakpomlkgpnaa
open Go Go.Ev
set_option maxRecDepth 100000
set_option linter.unusedVariables false
set_option linter.unusedSimpArgs false

theorem ProdFences_main (W : World) (x0 : (Ty.slice (.cons (.int .i64) (.cons (.int .i64) (.cons (.int .u64) (.cons (.int .i64) (.cons (.int .i64) (.cons .bool (.cons .bool (.cons .bool (.cons (.slice (.slice (.int .u8))) .nil)))))))))).Val) (h0 : (Ty.slice (.cons (.int .i64) (.cons (.int .i64) (.cons (.int .u64) (.cons (.int .i64) (.cons (.int .i64) (.cons .bool (.cons .bool (.cons .bool (.cons (.slice (.slice (.int .u8))) .nil)))))))))).At W [.slice x0.1.1 x0.1.2.1 x0.1.2.2] x0) (cs1 : List Value) (x1 : (Ty.Val (.cons (.int .i64) (.cons (.int .i64) (.cons (.int .u64) (.cons (.int .i64) (.cons (.int .i64) (.cons .bool (.cons .bool (.cons .bool (.cons (.slice (.slice (.int .u8))) .nil))))))))))) (h1 : Ty.At W (.cons (.int .i64) (.cons (.int .i64) (.cons (.int .u64) (.cons (.int .i64) (.cons (.int .i64) (.cons .bool (.cons .bool (.cons .bool (.cons (.slice (.slice (.int .u8))) .nil))))))))) cs1 x1) (hs0 : Ty.Fits (.slice (.cons (.int .i64) (.cons (.int .i64) (.cons (.int .u64) (.cons (.int .i64) (.cons (.int .i64) (.cons .bool (.cons .bool (.cons .bool (.cons (.slice (.slice (.int .u8))) .nil)))))))))) x0) (hs1 : Ty.Fits (.cons (.int .i64) (.cons (.int .i64) (.cons (.int .u64) (.cons (.int .i64) (.cons (.int .i64) (.cons .bool (.cons .bool (.cons .bool (.cons (.slice (.slice (.int .u8))) .nil))))))))) x1) :
    ∃ w', callF Try.prog 5 #[.slice x0.1.1 x0.1.2.1 x0.1.2.2, .agg cs1.toArray] W = some (.bool true, w') ∧ Fr [] W w' := by
  obtain ⟨rfl, hok⟩ := toB_at (w := W) (x := x1) h1 (toB_fits hs1)
  obtain ⟨b, hbb⟩ : ∃ b, toB x1 = b := ⟨_, rfl⟩
  rw [hbb] at hok ⊢
  obtain ⟨s1, f1⟩ := spill W b
  obtain ⟨v, hv⟩ : ∃ v, W.alloc (.cells #[.int .i64 b.base, .int .i64 b.ep, .int .u64 b.pid, .int .i64 b.pe, .int .i64 b.seq, .bool b.txn, .bool b.con, .bool b.com, .slice b.q.1 b.q.2.1 b.q.2.2] 30) = v := ⟨_, rfl⟩
  rw [hv] at s1 f1
  obtain ⟨w1, e1, f2⟩ := awake8 v
  have F1 : Fr [] W w1 := (Fr.mono (Fr.app f1 f2) (by have z0_ := Fr.size f1; have z1_ := Fr.size f2; intro y_ hy_ hl_; grind [blkOf]))
  have hold : Old W w1 := (Old.refl W).fr F1 (by simp)
  obtain ⟨q, w2, D, e2, hL⟩ := laid9 (at_old hold _ _ _ h0) hs0 (Fr.refl [] w1)
  obtain ⟨s, hs⟩ : ∃ s, lay (x0.2.map toB) = s := ⟨_, rfl⟩
  rw [hs] at hL
  have f3 := hL.fr
  have F2 : Fr [] W w2 := (Fr.mono (Fr.app F1 f3) (by have z0_ := Fr.size F1; have z1_ := Fr.size f3; intro y_ hy_ hl_; grind [blkOf]))
  obtain ⟨w3, e3, f4⟩ := doccheck12 (hok.fr F2)
  have F3 : Fr [] W w3 := (Fr.mono (Fr.app F2 f4) (by have z0_ := Fr.size F2; have z1_ := Fr.size f4; intro y_ hy_ hl_; grind [blkOf]))
  have b2 := (s1.fr f2 (by simp)).fr f3 (by simp)
  have b3 := b2.fr f4 (by simp)
  have l2 : ldN w2 ⟨W.heap.size, 0, none⟩ 0 9 = some [.int .i64 b.base, .int .i64 b.ep, .int .u64 b.pid, .int .i64 b.pe, .int .i64 b.seq, .bool b.txn, .bool b.con, .bool b.com, .slice b.q.1 b.q.2.1 b.q.2.2] := blk_ldN b2 (n := 9) (by simp [BV.cs])
  have e3' : callF Try.prog 12 #[.agg #[.int .i64 b.base, .int .i64 b.ep, .int .u64 b.pid, .int .i64 b.pe, .int .i64 b.seq, .bool b.txn, .bool b.con, .bool b.com, .slice b.q.1 b.q.2.1 b.q.2.2]] w2 = some (.int .i64 (chkB b), w3) := e3
  have call := fun r => g5_call (u0 := x0.1) (u1c0 := b.base) (u1c1 := b.ep) (u1c2 := b.pid) (u1c3 := b.pe) (u1c4 := b.seq) (u1c5 := b.txn) (u1c6 := b.con) (u1c7 := b.com) (u1c8 := b.q) (w0 := W) (r := r)
  by_cases hk : chkB b = 0
  · have hk0 : (chkB b != 0) = false := by simp [hk]
    have t3 := hL.tab.fr f4 (by simp)
    have c2 := (cs9 b3).c2
    obtain ⟨w4, e4, f5⟩ := known10 t3 b.pid
    have F4 : Fr [] W w4 := (Fr.mono (Fr.app F3 f5) (by have z0_ := Fr.size F3; have z1_ := Fr.size f5; intro y_ hy_ hl_; grind [blkOf]))
    have b4 := b3.fr f5 (by simp)
    have t4 := t3.fr f5 (by simp)
    obtain ⟨w5, e5, f6⟩ := check11 t4 (hok.fr F4) (fun v hv => by have := hL.five _ (kget_mem hv); exact Nat.lt_of_le_of_lt this (by decide))
    have F5 : Fr [] W w5 := (Fr.mono (Fr.app F4 f6) (by have z0_ := Fr.size F4; have z1_ := Fr.size f6; intro y_ hy_ hl_; grind [blkOf]))
    have b5 := b4.fr f6 (by simp)
    have d2 := (cs9 b5).c2
    have d3 := (cs9 b5).c3
    have l4 : ldN w4 ⟨W.heap.size, 0, none⟩ 0 9 = some [.int .i64 b.base, .int .i64 b.ep, .int .u64 b.pid, .int .i64 b.pe, .int .i64 b.seq, .bool b.txn, .bool b.con, .bool b.com, .slice b.q.1 b.q.2.1 b.q.2.2] := blk_ldN b4 (n := 9) (by simp [BV.cs])
    have e5' : callF Try.prog 11 #[.pointer (some ⟨w1.heap.size + 1, 0, none⟩), .agg #[.int .i64 b.base, .int .i64 b.ep, .int .u64 b.pid, .int .i64 b.pe, .int .i64 b.seq, .bool b.txn, .bool b.con, .bool b.com, .slice b.q.1 b.q.2.1 b.q.2.2]] w4 = some (.tuple #[.int .i64 (chkA s.1 b).1, .bool (chkA s.1 b).2.1, .int .i64 (chkA s.1 b).2.2], w5) := e5
    obtain ⟨a1, a2, a3, a4, e4', hrel⟩ : ∃ a1 a2 a3 a4, callF Try.prog 10 #[.pointer (some ⟨w1.heap.size + 1, 0, none⟩), .int .u64 b.pid] w3 = some (.tuple #[.int .i64 a1, .int .i64 a2, .int .i64 a3, .bool a4], w4) ∧ (a4 = false ∧ kget s.1 b.pid = none ∨ a4 = true ∧ ∃ u, kget s.1 b.pid = some u ∧ a1 = u.1) := by
      cases hkg : kget s.1 b.pid with
      | none => rw [hkg] at e4; exact ⟨_, _, _, _, e4, .inl ⟨rfl, rfl⟩⟩
      | some u => rw [hkg] at e4; exact ⟨_, _, _, _, e4, .inr ⟨rfl, u, rfl, rfl⟩⟩
    have H := g5_far hv e1 e2 l2 e3' hk0 c2 e4' l4 e5' d2 d3
    refine ⟨w5, call _ (H.trans ?_), F5⟩
    suffices hs : fenRes b.pid b.pe a1 (chkA s.1 b).1 (chkA s.1 b).2.2 a4 (chkA s.1 b).2.1 = true by rw [hs]
    unfold fenRes
    by_cases hp : b.pid = 0
    · have hp0 : (b.pid == 0) = true := by simp [hp]
      have ea : chkA s.1 b = (0, false, 0) := by unfold chkA; rw [if_neg (by simp [hk]), if_pos hp]
      rw [ea]
      simp [hp0]
    · have hp0 : (b.pid == 0) = false := by simp [hp]
      obtain ⟨q1, q2⟩ := chkA_fenced (A := s.1) hk hp
      generalize chkA s.1 b = r at q1 q2 ⊢
      have hfin : (if (r.2.2 == 0) = true then true else if (!r.2.1) = true then (r.1 == 0) else false) = true := by
        rcases q2 with q2 | ⟨q2, q3⟩
        · simp [q2]
        · by_cases hz : r.2.2 = 0
          · simp [hz]
          · simp [hz, q2, q3]
      rcases hrel with ⟨rfl, hkg⟩ | ⟨rfl, u, hkg, rfl⟩
      · have hn : (r.2.2 == 10) = false := by
          have : ¬ r.2.2 = 10 := fun h => by obtain ⟨v, hv, _⟩ := q1.mp h; rw [hkg] at hv; cases hv
          simp [this]
        simp only [hp0, hn, Bool.false_eq_true, if_false, beq_self_eq_true, Bool.not_true]
        exact hfin
      · have hn : (!((r.2.2 == 10) == decide (b.pe < u.1))) = false := by
          by_cases hlt : b.pe < u.1
          · have := q1.mpr ⟨u, hkg, hlt⟩
            simp [this, hlt]
          · have : ¬ r.2.2 = 10 := fun h => by obtain ⟨v, hv, hl⟩ := q1.mp h; rw [hkg] at hv; cases hv; exact hlt hl
            simp [this, hlt]
        simp only [hp0, Bool.false_eq_true, if_false, if_true, asI_int, Option.bind_some, hn]
        exact hfin
  · have hk0 : (chkB b != 0) = true := by simp [hk]
    exact ⟨w3, call _ (g5_mid hv e1 e2 l2 e3' hk0), F3⟩
end Go.Proofs.Ytliakpomlkgpnaa
