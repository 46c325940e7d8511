/-
  TxnRises: lemmas on what Go functions of this seat come to (for whatever arguments, as each says). No condition but those that stand in each lemma.
-/
import Derived.Test.YtlcojbodcbjkaaaTxnL4
import Derived.Test.YtlcojbodcbjkaaaTxnP
namespace Go.Proofs.Ytlcojbodcbjkaaa
open Go Go.Ev
set_option maxRecDepth 100000
set_option linter.unusedVariables false
set_option linter.unusedSimpArgs false

/-- what Rises keeps -/
structure RS (W x : World) (tb gw : Nat) (next : Int) (m : Int) : Prop where
  ex : ∃ D A q, LS W x tb D A next m ∧ Blk x gw ((tvOf A 0).cs q) 46 ∧ ∀ y, D y → y ≠ gw
  gw : W.heap.size ≤ gw
  nx : 1 ≤ next ∧ next ≤ m + 1

theorem even_tmod {e : Int} (h : e % 2 = 0) (h0 : 0 ≤ e) : Int.tmod e 2 = 0 := by
  rw [Int.tmod_eq_emod_of_nonneg h0]; exact h

theorem rises_round {W x r5w : World} {tb : Nat} {u0 : Option Addr × Nat × Nat} {v5 : Value} {next : Int} {k : Nat} {o : OV} {a : Addr} (h : RS W x tb r5w.heap.size next (k : Int)) (hk : (k : Int) < (u0.2.1 : Int)) (hu : u0.2.1 ≤ 9223372036854775807) (i1 : idxA u0.1 u0.2.1 15 (k : Int) = some a) (l1 : ldN x a 0 15 = some o.cs) :
    ∃ next' x', g4_l17_b u0 (some ⟨tb, 0, none⟩) (v5, r5w) (false, next, (k : Int)) x = some (.normal, (false, next', ((k + 1 : Nat) : Int)), x') ∧ RS W x' tb r5w.heap.size next' ((k + 1 : Nat) : Int) := by
  obtain ⟨⟨D, A, q0, hS, hB, hD⟩, hgw, hn⟩ := h
  have hs := wrap_succ (n := k) (by omega)
  obtain ⟨x1, s1, b1, f1, d1⟩ := newO x o
  obtain ⟨x2, D2, A2, e2, h2, lr, ⟨S2, f2, hS2⟩, n2⟩ := life_do (hS.step f1) o hn.1 (by omega)
  have hw : IntKind.u64.wrap (next + 1) = next + 1 := wrap_u64 (by omega) (by omega)
  have hk1 : decide ((k : Int) < (u0.2.1 : Int)) = true := by simp; omega
  have hgx := hB.lt
  have B1 := hB.fr f1 (by simp)
  have B2 := B1.fr f2 (fun hm => hD _ (hS2 _ hm) rfl)
  obtain ⟨q3, x3, e3, f3, o3, _⟩ := tx21 h2.tab 0 h2.lenM
  obtain ⟨x4, s4, b4, f4⟩ := newT2 x3 (tvOf A2 0) q3
  have B4 := (B2.fr f3 (by simp)).fr f4 (by simp)
  have h4 := (h2.step f3).step f4
  have z1 := f1.size
  have z2 := f2.size
  have z3 := f3.size
  have z4 := f4.size
  have l4 := b4.ldN (n := 8) rfl
  obtain ⟨x5, s5, b5, f5⟩ := B4.stL (vs := (tvOf A2 0).cs q3) rfl (tvcs_oc _ _)
  have hD2 : ∀ y, D2 y → y ≠ r5w.heap.size := fun y hy => by
    rcases n2 y hy with hh | hh
    · exact hD y hh
    · omega
  have h5 : ∀ {n' m' : Int}, LI (tvOf A2 0) n' m' → LS W x5 tb D2 A2 n' m' := fun hl => ⟨h4.tab.fr f5 (by intro y hy _; simp at hy; subst hy; exact fun hd => hD2 _ hd rfl), hl, (h4.fr.app f5).mono (by intro y hy hl; simp at hy; omega), h4.hD⟩
  have hli := h2.li
  have o3l := o3.len
  obtain ⟨t, ht⟩ : ∃ t, tvOf A 0 = t := ⟨_, rfl⟩
  obtain ⟨t', ht'⟩ : ∃ t', tvOf A2 0 = t' := ⟨_, rfl⟩
  rw [ht] at B4 lr
  rw [ht] at e2 hli h2
  rw [ht'] at e3 s4 b4 l4 s5 b5 hli lr h5 o3l
  have w1' : x4.cell? ⟨r5w.heap.size, 1, none⟩ = some (.int .i64 t.inc) := B4.cell 1
  have w2' : x4.cell? ⟨r5w.heap.size, 2, none⟩ = some (.int .u64 t.pid) := B4.cell 2
  have w3' : x4.cell? ⟨r5w.heap.size, 3, none⟩ = some (.int .i64 t.ep) := B4.cell 3
  have g0 : x4.cell? ⟨x3.heap.size, 0, none⟩ = some (.int .i64 t'.st) := b4.cell 0
  have g1 : x4.cell? ⟨x3.heap.size, 1, none⟩ = some (.int .i64 t'.inc) := b4.cell 1
  have g2 : x4.cell? ⟨x3.heap.size, 2, none⟩ = some (.int .u64 t'.pid) := b4.cell 2
  have g3 : x4.cell? ⟨x3.heap.size, 3, none⟩ = some (.int .i64 t'.ep) := b4.cell 3
  have g4 : x4.cell? ⟨x3.heap.size, 4, none⟩ = some (.slice q3.1 q3.2.1 q3.2.2) := b4.cell 4
  have g5 : x4.cell? ⟨x3.heap.size, 5, none⟩ = some (.int .i64 t'.last) := b4.cell 5
  have g6 : x4.cell? ⟨x3.heap.size, 6, none⟩ = some (.int .u64 t'.lpid) := b4.cell 6
  have hep := hli.ep
  have k1 : (Int.tmod t'.ep 2 != 0) = false := by rw [even_tmod hep.1 hep.2.1]; rfl
  have k2 : decide (t'.ep < 0) = false := by simp; omega
  have k3 : decide (t'.ep > 1000) = false := by simp; omega
  have k4 : decide (t'.inc < t.inc) = false := by have := lr.inc; simp; omega
  simp only [intsV', List.length_map] at o3l
  have hop := hli.op
  have kL : decide (((q3.2.1 : Nat) : Int) > 0) = decide (t'.st = 2 ∨ t'.st = 3) := by
    apply decide_eq_decide.mpr
    rw [hop]
    constructor
    · intro hh he; rw [he] at o3l; simp at o3l; omega
    · intro hh
      have := List.length_pos_iff.mpr hh
      omega
  have fin : ∀ next', next' = (if (lifeP t o next).2 then next + 1 else next) → g4_l17_b u0 (some ⟨tb, 0, none⟩) (v5, r5w) (false, next, (k : Int)) x = some (.normal, (false, next', ((k + 1 : Nat) : Int)), x5) →
      ∃ next' x', g4_l17_b u0 (some ⟨tb, 0, none⟩) (v5, r5w) (false, next, (k : Int)) x = some (.normal, (false, next', ((k + 1 : Nat) : Int)), x') ∧ RS W x' tb r5w.heap.size next' ((k + 1 : Nat) : Int) := by
    intro next' hn' he
    have hc : ((k + 1 : Nat) : Int) = (k : Int) + 1 := by omega
    rw [← hn'] at hli
    refine ⟨next', x5, he, ⟨⟨D2, A2, q3, h5 (by rw [hc]; exact hli), by rw [ht']; exact b5, hD2⟩, hgw, ?_⟩⟩
    have := hn
    rw [hn']
    split <;> omega
  simp only [OV.cs] at l1
  simp only [OV.arg] at e2
  simp only [TV.arg] at e3
  simp only [TV.cs] at l4 s5
  have c2 : t'.st = 2 ∨ t'.st = 3 ∨ (t'.st ≠ 2 ∧ t'.st ≠ 3) := by omega
  have hp0 : t'.pid = t.pid ∨ ¬ t'.pid = t.pid := Decidable.em _
  have kk1 : (true == true) = true := rfl
  have kk2 : (false == false) = true := rfl
  cases hok : (lifeP t o next).2 with
  | true =>
    rw [hok] at e2 fin
    refine fin (next + 1) rfl ?_
    unfold g4_l17_b
    simp only [hk1, i1, l1, s1, d1, e2, e3, s4, addr_add, Nat.zero_add, obs, asP_pointer, asB_bool, asI_int, asS_string, asSl_slice, asM_map, asTup0, asTup1, asTup2, asTup3, asTup4, asTup5, asTup6, asTup7, asTup8, asTup9, asAgg2, asAgg3, asAgg4, asAgg5, asAgg6, asAgg7, asAgg8, asAgg9, asAgg12, getD0, getD1, getD2, getD3, getD4, getD5, getD6, getD7, getD8, getD9, getD10, getD11, getD12, getD13, getD14, getD15, getD16, getD17, getD18, getD19, Bool.not_true, Bool.not_false, Bool.false_eq_true, Bool.true_eq_false, ↓reduceIte, decide_true, decide_false, Option.isNone_some, Option.isNone_none, Option.isSome_some, Option.isSome_none, beq_self_eq_true, bne_self_eq_false, Bool.and_true, Bool.true_and, Bool.and_false, Bool.false_and, not_true_eq_false, not_false_eq_true]
    simp only [g3, k1, k2, k3, g2, w2', obs, asP_pointer, asB_bool, asI_int, asS_string, asSl_slice, asM_map, asTup0, asTup1, asTup2, asTup3, asTup4, asTup5, asTup6, asTup7, asTup8, asTup9, asAgg2, asAgg3, asAgg4, asAgg5, asAgg6, asAgg7, asAgg8, asAgg9, asAgg12, getD0, getD1, getD2, getD3, getD4, getD5, getD6, getD7, getD8, getD9, getD10, getD11, getD12, getD13, getD14, getD15, getD16, getD17, getD18, getD19, Bool.not_true, Bool.not_false, Bool.false_eq_true, Bool.true_eq_false, ↓reduceIte, decide_true, decide_false, Option.isNone_some, Option.isNone_none, Option.isSome_some, Option.isSome_none, beq_self_eq_true, bne_self_eq_false, Bool.and_true, Bool.true_and, Bool.and_false, Bool.false_and, not_true_eq_false, not_false_eq_true]
    rcases hp0 with hp | hp
    · have p1 : (t'.pid == t.pid) = true := by simp [hp]
      have p2 : (t'.pid != t.pid) = false := by simp [hp]
      have p3 : decide (t'.ep < t.ep) = false := by have := lr.same hp; simp; omega
      rcases c2 with c2 | c2 | c2
      · have q1 : (t'.st == 2) = true := by simp [c2]
        have q2 : (t'.st == 3) = false := by simp [c2]
        have kL' : decide (((q3.2.1 : Nat) : Int) > 0) = true := by rw [kL]; simp [c2]
        simp only [p1, g3, w3', p2, p3, w2', g2, g0, q1, g4, kL', q2, g1, w1', k4, l4, s5, hw, hs, obs, asP_pointer, asB_bool, asI_int, asS_string, asSl_slice, asM_map, asTup0, asTup1, asTup2, asTup3, asTup4, asTup5, asTup6, asTup7, asTup8, asTup9, asAgg2, asAgg3, asAgg4, asAgg5, asAgg6, asAgg7, asAgg8, asAgg9, asAgg12, getD0, getD1, getD2, getD3, getD4, getD5, getD6, getD7, getD8, getD9, getD10, getD11, getD12, getD13, getD14, getD15, getD16, getD17, getD18, getD19, Bool.not_true, Bool.not_false, Bool.false_eq_true, Bool.true_eq_false, ↓reduceIte, decide_true, decide_false, Option.isNone_some, Option.isNone_none, Option.isSome_some, Option.isSome_none, beq_self_eq_true, bne_self_eq_false, Bool.and_true, Bool.true_and, Bool.and_false, Bool.false_and, not_true_eq_false, not_false_eq_true]
      · have q1 : (t'.st == 2) = false := by simp [c2]
        have q2 : (t'.st == 3) = true := by simp [c2]
        have kL' : decide (((q3.2.1 : Nat) : Int) > 0) = true := by rw [kL]; simp [c2]
        have k5 : (t'.last != t'.ep) = false := by simp [(hli.prep c2).1]
        have k6 : (t'.lpid != t'.pid) = false := by simp [(hli.prep c2).2.1]
        simp only [p1, g3, w3', p2, p3, w2', g2, g0, q1, g4, kL', q2, k5, g6, k6, g5, g1, w1', k4, l4, s5, hw, hs, obs, asP_pointer, asB_bool, asI_int, asS_string, asSl_slice, asM_map, asTup0, asTup1, asTup2, asTup3, asTup4, asTup5, asTup6, asTup7, asTup8, asTup9, asAgg2, asAgg3, asAgg4, asAgg5, asAgg6, asAgg7, asAgg8, asAgg9, asAgg12, getD0, getD1, getD2, getD3, getD4, getD5, getD6, getD7, getD8, getD9, getD10, getD11, getD12, getD13, getD14, getD15, getD16, getD17, getD18, getD19, Bool.not_true, Bool.not_false, Bool.false_eq_true, Bool.true_eq_false, ↓reduceIte, decide_true, decide_false, Option.isNone_some, Option.isNone_none, Option.isSome_some, Option.isSome_none, beq_self_eq_true, bne_self_eq_false, Bool.and_true, Bool.true_and, Bool.and_false, Bool.false_and, not_true_eq_false, not_false_eq_true]
      · have q1 : (t'.st == 2) = false := by simp [c2]
        have q2 : (t'.st == 3) = false := by simp [c2]
        have kL' : decide (((q3.2.1 : Nat) : Int) > 0) = false := by rw [kL]; simp [c2]
        simp only [p1, g3, w3', p2, p3, w2', g2, g0, q1, g4, kL', q2, g1, w1', k4, l4, s5, hw, hs, obs, asP_pointer, asB_bool, asI_int, asS_string, asSl_slice, asM_map, asTup0, asTup1, asTup2, asTup3, asTup4, asTup5, asTup6, asTup7, asTup8, asTup9, asAgg2, asAgg3, asAgg4, asAgg5, asAgg6, asAgg7, asAgg8, asAgg9, asAgg12, getD0, getD1, getD2, getD3, getD4, getD5, getD6, getD7, getD8, getD9, getD10, getD11, getD12, getD13, getD14, getD15, getD16, getD17, getD18, getD19, Bool.not_true, Bool.not_false, Bool.false_eq_true, Bool.true_eq_false, ↓reduceIte, decide_true, decide_false, Option.isNone_some, Option.isNone_none, Option.isSome_some, Option.isSome_none, beq_self_eq_true, bne_self_eq_false, Bool.and_true, Bool.true_and, Bool.and_false, Bool.false_and, not_true_eq_false, not_false_eq_true]
    · have p1 : (t'.pid == t.pid) = false := by simp [hp]
      have p2 : (t'.pid != t.pid) = true := by simp [hp]
      have p3 : (t'.ep != 0) = false := by simp [lr.new hp]
      rcases c2 with c2 | c2 | c2
      · have q1 : (t'.st == 2) = true := by simp [c2]
        have q2 : (t'.st == 3) = false := by simp [c2]
        have kL' : decide (((q3.2.1 : Nat) : Int) > 0) = true := by rw [kL]; simp [c2]
        simp only [p1, g3, w3', p2, p3, w2', g2, g0, q1, g4, kL', q2, g1, w1', k4, l4, s5, hw, hs, obs, asP_pointer, asB_bool, asI_int, asS_string, asSl_slice, asM_map, asTup0, asTup1, asTup2, asTup3, asTup4, asTup5, asTup6, asTup7, asTup8, asTup9, asAgg2, asAgg3, asAgg4, asAgg5, asAgg6, asAgg7, asAgg8, asAgg9, asAgg12, getD0, getD1, getD2, getD3, getD4, getD5, getD6, getD7, getD8, getD9, getD10, getD11, getD12, getD13, getD14, getD15, getD16, getD17, getD18, getD19, Bool.not_true, Bool.not_false, Bool.false_eq_true, Bool.true_eq_false, ↓reduceIte, decide_true, decide_false, Option.isNone_some, Option.isNone_none, Option.isSome_some, Option.isSome_none, beq_self_eq_true, bne_self_eq_false, Bool.and_true, Bool.true_and, Bool.and_false, Bool.false_and, not_true_eq_false, not_false_eq_true]
      · have q1 : (t'.st == 2) = false := by simp [c2]
        have q2 : (t'.st == 3) = true := by simp [c2]
        have kL' : decide (((q3.2.1 : Nat) : Int) > 0) = true := by rw [kL]; simp [c2]
        have k5 : (t'.last != t'.ep) = false := by simp [(hli.prep c2).1]
        have k6 : (t'.lpid != t'.pid) = false := by simp [(hli.prep c2).2.1]
        simp only [p1, g3, w3', p2, p3, w2', g2, g0, q1, g4, kL', q2, k5, g6, k6, g5, g1, w1', k4, l4, s5, hw, hs, obs, asP_pointer, asB_bool, asI_int, asS_string, asSl_slice, asM_map, asTup0, asTup1, asTup2, asTup3, asTup4, asTup5, asTup6, asTup7, asTup8, asTup9, asAgg2, asAgg3, asAgg4, asAgg5, asAgg6, asAgg7, asAgg8, asAgg9, asAgg12, getD0, getD1, getD2, getD3, getD4, getD5, getD6, getD7, getD8, getD9, getD10, getD11, getD12, getD13, getD14, getD15, getD16, getD17, getD18, getD19, Bool.not_true, Bool.not_false, Bool.false_eq_true, Bool.true_eq_false, ↓reduceIte, decide_true, decide_false, Option.isNone_some, Option.isNone_none, Option.isSome_some, Option.isSome_none, beq_self_eq_true, bne_self_eq_false, Bool.and_true, Bool.true_and, Bool.and_false, Bool.false_and, not_true_eq_false, not_false_eq_true]
      · have q1 : (t'.st == 2) = false := by simp [c2]
        have q2 : (t'.st == 3) = false := by simp [c2]
        have kL' : decide (((q3.2.1 : Nat) : Int) > 0) = false := by rw [kL]; simp [c2]
        simp only [p1, g3, w3', p2, p3, w2', g2, g0, q1, g4, kL', q2, g1, w1', k4, l4, s5, hw, hs, obs, asP_pointer, asB_bool, asI_int, asS_string, asSl_slice, asM_map, asTup0, asTup1, asTup2, asTup3, asTup4, asTup5, asTup6, asTup7, asTup8, asTup9, asAgg2, asAgg3, asAgg4, asAgg5, asAgg6, asAgg7, asAgg8, asAgg9, asAgg12, getD0, getD1, getD2, getD3, getD4, getD5, getD6, getD7, getD8, getD9, getD10, getD11, getD12, getD13, getD14, getD15, getD16, getD17, getD18, getD19, Bool.not_true, Bool.not_false, Bool.false_eq_true, Bool.true_eq_false, ↓reduceIte, decide_true, decide_false, Option.isNone_some, Option.isNone_none, Option.isSome_some, Option.isSome_none, beq_self_eq_true, bne_self_eq_false, Bool.and_true, Bool.true_and, Bool.and_false, Bool.false_and, not_true_eq_false, not_false_eq_true]
  | false =>
    rw [hok] at e2 fin
    refine fin next rfl ?_
    unfold g4_l17_b
    simp only [hk1, i1, l1, s1, d1, e2, e3, s4, addr_add, Nat.zero_add, obs, asP_pointer, asB_bool, asI_int, asS_string, asSl_slice, asM_map, asTup0, asTup1, asTup2, asTup3, asTup4, asTup5, asTup6, asTup7, asTup8, asTup9, asAgg2, asAgg3, asAgg4, asAgg5, asAgg6, asAgg7, asAgg8, asAgg9, asAgg12, getD0, getD1, getD2, getD3, getD4, getD5, getD6, getD7, getD8, getD9, getD10, getD11, getD12, getD13, getD14, getD15, getD16, getD17, getD18, getD19, Bool.not_true, Bool.not_false, Bool.false_eq_true, Bool.true_eq_false, ↓reduceIte, decide_true, decide_false, Option.isNone_some, Option.isNone_none, Option.isSome_some, Option.isSome_none, beq_self_eq_true, bne_self_eq_false, Bool.and_true, Bool.true_and, Bool.and_false, Bool.false_and, not_true_eq_false, not_false_eq_true]
    simp only [g3, k1, k2, k3, g2, w2', obs, asP_pointer, asB_bool, asI_int, asS_string, asSl_slice, asM_map, asTup0, asTup1, asTup2, asTup3, asTup4, asTup5, asTup6, asTup7, asTup8, asTup9, asAgg2, asAgg3, asAgg4, asAgg5, asAgg6, asAgg7, asAgg8, asAgg9, asAgg12, getD0, getD1, getD2, getD3, getD4, getD5, getD6, getD7, getD8, getD9, getD10, getD11, getD12, getD13, getD14, getD15, getD16, getD17, getD18, getD19, Bool.not_true, Bool.not_false, Bool.false_eq_true, Bool.true_eq_false, ↓reduceIte, decide_true, decide_false, Option.isNone_some, Option.isNone_none, Option.isSome_some, Option.isSome_none, beq_self_eq_true, bne_self_eq_false, Bool.and_true, Bool.true_and, Bool.and_false, Bool.false_and, not_true_eq_false, not_false_eq_true]
    rcases hp0 with hp | hp
    · have p1 : (t'.pid == t.pid) = true := by simp [hp]
      have p2 : (t'.pid != t.pid) = false := by simp [hp]
      have p3 : decide (t'.ep < t.ep) = false := by have := lr.same hp; simp; omega
      rcases c2 with c2 | c2 | c2
      · have q1 : (t'.st == 2) = true := by simp [c2]
        have q2 : (t'.st == 3) = false := by simp [c2]
        have kL' : decide (((q3.2.1 : Nat) : Int) > 0) = true := by rw [kL]; simp [c2]
        simp only [p1, g3, w3', p2, p3, w2', g2, g0, q1, g4, kL', q2, g1, w1', k4, l4, s5, hs, obs, asP_pointer, asB_bool, asI_int, asS_string, asSl_slice, asM_map, asTup0, asTup1, asTup2, asTup3, asTup4, asTup5, asTup6, asTup7, asTup8, asTup9, asAgg2, asAgg3, asAgg4, asAgg5, asAgg6, asAgg7, asAgg8, asAgg9, asAgg12, getD0, getD1, getD2, getD3, getD4, getD5, getD6, getD7, getD8, getD9, getD10, getD11, getD12, getD13, getD14, getD15, getD16, getD17, getD18, getD19, Bool.not_true, Bool.not_false, Bool.false_eq_true, Bool.true_eq_false, ↓reduceIte, decide_true, decide_false, Option.isNone_some, Option.isNone_none, Option.isSome_some, Option.isSome_none, beq_self_eq_true, bne_self_eq_false, Bool.and_true, Bool.true_and, Bool.and_false, Bool.false_and, not_true_eq_false, not_false_eq_true]
      · have q1 : (t'.st == 2) = false := by simp [c2]
        have q2 : (t'.st == 3) = true := by simp [c2]
        have kL' : decide (((q3.2.1 : Nat) : Int) > 0) = true := by rw [kL]; simp [c2]
        have k5 : (t'.last != t'.ep) = false := by simp [(hli.prep c2).1]
        have k6 : (t'.lpid != t'.pid) = false := by simp [(hli.prep c2).2.1]
        simp only [p1, g3, w3', p2, p3, w2', g2, g0, q1, g4, kL', q2, k5, g6, k6, g5, g1, w1', k4, l4, s5, hs, obs, asP_pointer, asB_bool, asI_int, asS_string, asSl_slice, asM_map, asTup0, asTup1, asTup2, asTup3, asTup4, asTup5, asTup6, asTup7, asTup8, asTup9, asAgg2, asAgg3, asAgg4, asAgg5, asAgg6, asAgg7, asAgg8, asAgg9, asAgg12, getD0, getD1, getD2, getD3, getD4, getD5, getD6, getD7, getD8, getD9, getD10, getD11, getD12, getD13, getD14, getD15, getD16, getD17, getD18, getD19, Bool.not_true, Bool.not_false, Bool.false_eq_true, Bool.true_eq_false, ↓reduceIte, decide_true, decide_false, Option.isNone_some, Option.isNone_none, Option.isSome_some, Option.isSome_none, beq_self_eq_true, bne_self_eq_false, Bool.and_true, Bool.true_and, Bool.and_false, Bool.false_and, not_true_eq_false, not_false_eq_true]
      · have q1 : (t'.st == 2) = false := by simp [c2]
        have q2 : (t'.st == 3) = false := by simp [c2]
        have kL' : decide (((q3.2.1 : Nat) : Int) > 0) = false := by rw [kL]; simp [c2]
        simp only [p1, g3, w3', p2, p3, w2', g2, g0, q1, g4, kL', q2, g1, w1', k4, l4, s5, hs, obs, asP_pointer, asB_bool, asI_int, asS_string, asSl_slice, asM_map, asTup0, asTup1, asTup2, asTup3, asTup4, asTup5, asTup6, asTup7, asTup8, asTup9, asAgg2, asAgg3, asAgg4, asAgg5, asAgg6, asAgg7, asAgg8, asAgg9, asAgg12, getD0, getD1, getD2, getD3, getD4, getD5, getD6, getD7, getD8, getD9, getD10, getD11, getD12, getD13, getD14, getD15, getD16, getD17, getD18, getD19, Bool.not_true, Bool.not_false, Bool.false_eq_true, Bool.true_eq_false, ↓reduceIte, decide_true, decide_false, Option.isNone_some, Option.isNone_none, Option.isSome_some, Option.isSome_none, beq_self_eq_true, bne_self_eq_false, Bool.and_true, Bool.true_and, Bool.and_false, Bool.false_and, not_true_eq_false, not_false_eq_true]
    · have p1 : (t'.pid == t.pid) = false := by simp [hp]
      have p2 : (t'.pid != t.pid) = true := by simp [hp]
      have p3 : (t'.ep != 0) = false := by simp [lr.new hp]
      rcases c2 with c2 | c2 | c2
      · have q1 : (t'.st == 2) = true := by simp [c2]
        have q2 : (t'.st == 3) = false := by simp [c2]
        have kL' : decide (((q3.2.1 : Nat) : Int) > 0) = true := by rw [kL]; simp [c2]
        simp only [p1, g3, w3', p2, p3, w2', g2, g0, q1, g4, kL', q2, g1, w1', k4, l4, s5, hs, obs, asP_pointer, asB_bool, asI_int, asS_string, asSl_slice, asM_map, asTup0, asTup1, asTup2, asTup3, asTup4, asTup5, asTup6, asTup7, asTup8, asTup9, asAgg2, asAgg3, asAgg4, asAgg5, asAgg6, asAgg7, asAgg8, asAgg9, asAgg12, getD0, getD1, getD2, getD3, getD4, getD5, getD6, getD7, getD8, getD9, getD10, getD11, getD12, getD13, getD14, getD15, getD16, getD17, getD18, getD19, Bool.not_true, Bool.not_false, Bool.false_eq_true, Bool.true_eq_false, ↓reduceIte, decide_true, decide_false, Option.isNone_some, Option.isNone_none, Option.isSome_some, Option.isSome_none, beq_self_eq_true, bne_self_eq_false, Bool.and_true, Bool.true_and, Bool.and_false, Bool.false_and, not_true_eq_false, not_false_eq_true]
      · have q1 : (t'.st == 2) = false := by simp [c2]
        have q2 : (t'.st == 3) = true := by simp [c2]
        have kL' : decide (((q3.2.1 : Nat) : Int) > 0) = true := by rw [kL]; simp [c2]
        have k5 : (t'.last != t'.ep) = false := by simp [(hli.prep c2).1]
        have k6 : (t'.lpid != t'.pid) = false := by simp [(hli.prep c2).2.1]
        simp only [p1, g3, w3', p2, p3, w2', g2, g0, q1, g4, kL', q2, k5, g6, k6, g5, g1, w1', k4, l4, s5, hs, obs, asP_pointer, asB_bool, asI_int, asS_string, asSl_slice, asM_map, asTup0, asTup1, asTup2, asTup3, asTup4, asTup5, asTup6, asTup7, asTup8, asTup9, asAgg2, asAgg3, asAgg4, asAgg5, asAgg6, asAgg7, asAgg8, asAgg9, asAgg12, getD0, getD1, getD2, getD3, getD4, getD5, getD6, getD7, getD8, getD9, getD10, getD11, getD12, getD13, getD14, getD15, getD16, getD17, getD18, getD19, Bool.not_true, Bool.not_false, Bool.false_eq_true, Bool.true_eq_false, ↓reduceIte, decide_true, decide_false, Option.isNone_some, Option.isNone_none, Option.isSome_some, Option.isSome_none, beq_self_eq_true, bne_self_eq_false, Bool.and_true, Bool.true_and, Bool.and_false, Bool.false_and, not_true_eq_false, not_false_eq_true]
      · have q1 : (t'.st == 2) = false := by simp [c2]
        have q2 : (t'.st == 3) = false := by simp [c2]
        have kL' : decide (((q3.2.1 : Nat) : Int) > 0) = false := by rw [kL]; simp [c2]
        simp only [p1, g3, w3', p2, p3, w2', g2, g0, q1, g4, kL', q2, g1, w1', k4, l4, s5, hs, obs, asP_pointer, asB_bool, asI_int, asS_string, asSl_slice, asM_map, asTup0, asTup1, asTup2, asTup3, asTup4, asTup5, asTup6, asTup7, asTup8, asTup9, asAgg2, asAgg3, asAgg4, asAgg5, asAgg6, asAgg7, asAgg8, asAgg9, asAgg12, getD0, getD1, getD2, getD3, getD4, getD5, getD6, getD7, getD8, getD9, getD10, getD11, getD12, getD13, getD14, getD15, getD16, getD17, getD18, getD19, Bool.not_true, Bool.not_false, Bool.false_eq_true, Bool.true_eq_false, ↓reduceIte, decide_true, decide_false, Option.isNone_some, Option.isNone_none, Option.isSome_some, Option.isSome_none, beq_self_eq_true, bne_self_eq_false, Bool.and_true, Bool.true_and, Bool.and_false, Bool.false_and, not_true_eq_false, not_false_eq_true]

theorem TxnRises_main (W : World) (x0 : (Ty.slice (.cons (.int .i64) (.cons (.int .i64) (.cons (.int .i64) (.cons (.int .i64) (.cons (.int .i64) (.cons (.int .u64) (.cons .bool (.cons .bool (.cons (.cons (.int .i64) (.cons (.int .i64) (.cons (.int .i64) (.cons (.int .u64) (.cons (.int .i64) (.cons (.slice (.int .i64)) (.cons .bool .nil))))))) .nil)))))))))).Val) (h0 : (Ty.slice (.cons (.int .i64) (.cons (.int .i64) (.cons (.int .i64) (.cons (.int .i64) (.cons (.int .i64) (.cons (.int .u64) (.cons .bool (.cons .bool (.cons (.cons (.int .i64) (.cons (.int .i64) (.cons (.int .i64) (.cons (.int .u64) (.cons (.int .i64) (.cons (.slice (.int .i64)) (.cons .bool .nil))))))) .nil)))))))))).At W [.slice x0.1.1 x0.1.2.1 x0.1.2.2] x0) :
    ∃ w', callF Try.prog 4 #[.slice x0.1.1 x0.1.2.1 x0.1.2.2] W = some (.bool true, w') ∧ Fr [] W w' := by
  have hml : maxLen = 9223372036854775807 := by decide
  have hl1 : x0.2.length = x0.1.2.1 := h0.2.1
  have hl2 : x0.1.2.1 ≤ x0.1.2.2 := h0.2.2.1
  have hl3 : x0.1.2.2 ≤ maxLen := h0.2.2.2.1
  obtain ⟨w1, D1, e1, t1, f1, n1⟩ := new10 W
  obtain ⟨w2, e2, f2⟩ := awake11 w1
  have h2 : LS W w2 (W.heap.size + 1) D1 [] 1 0 := ⟨t1.fr f2 (by simp), LI.zero_, (Fr.mono (Fr.app f1 f2) (by have z0_ := Fr.size f1; have z1_ := Fr.size f2; intro y_ hy_ hl_; grind [blkOf])), n1⟩
  obtain ⟨q3, w3, e3, f3, _, _⟩ := tx21 h2.tab 0 h2.lenM
  obtain ⟨w4, s4, b4, f4⟩ := newT2 w3 (tvOf [] 0) q3
  have lt1 := t1.lt
  have z2 := f2.size
  have z3 := f3.size
  have z1 := f1.size
  have hR : RS W w4 (W.heap.size + 1) w3.heap.size 1 0 := ⟨⟨D1, [], q3, (h2.step f3).step f4, b4, fun y hy => by have := lt1 y hy; omega⟩, by omega, by omega⟩
  have ht0 : tvOf [] 0 = tv0 := rfl
  rw [ht0] at e3 s4
  simp only [TV.arg] at e3
  obtain ⟨t, w5, g1, next, rfl, hR5⟩ := loopS_countX 0 (b := g4_l17_b x0.1 (some ⟨W.heap.size + 1, 0, none⟩) (.agg #[.int .i64 tv0.st, .int .i64 tv0.inc, .int .u64 tv0.pid, .int .i64 tv0.ep, .slice q3.1 q3.2.1 q3.2.2, .int .i64 tv0.last, .int .u64 tv0.lpid, .bool tv0.com], w3)) (I := fun k s x => ∃ next : Int, s = (false, next, (k : Int)) ∧ RS W x (W.heap.size + 1) w3.heap.size next (k : Int)) (n := x0.2.length)
    (fun k s x hk ⟨next, hs, h⟩ => by
      subst hs
      obtain ⟨_, _, _, hS, _⟩ := h.ex
      have hold : Old W x := (Old.refl W).fr hS.fr (by simp)
      obtain ⟨a, i1, l1⟩ := op_at (at_old hold _ _ _ h0) hk
      obtain ⟨next', x', e, h'⟩ := rises_round (u0 := x0.1) (v5 := .agg #[.int .i64 tv0.st, .int .i64 tv0.inc, .int .u64 tv0.pid, .int .i64 tv0.ep, .slice q3.1 q3.2.1 q3.2.2, .int .i64 tv0.last, .int .u64 tv0.lpid, .bool tv0.com]) h (by omega) (by omega) i1 l1
      exact ⟨_, x', e, next', rfl, h'⟩)
    (fun s x ⟨next, hs, _⟩ => by
      subst hs
      unfold g4_l17_b
      have : decide ((x0.2.length : Int) < (x0.1.2.1 : Int)) = false := by simp; omega
      simp only [this, Bool.false_eq_true, if_false]) (k := 0) (s := (false, 1, 0)) (w := w4) (Nat.zero_le _) ⟨1, rfl, hR⟩
  obtain ⟨_, _, _, hS5, _⟩ := hR5.ex
  refine ⟨w5, g4_call ?_, hS5.fr⟩
  unfold g4
  simp only [e1, e2, e3, s4, obs, asP_pointer, asB_bool, asI_int, asS_string, asSl_slice, asM_map, asTup0, asTup1, asTup2, asTup3, asTup4, asTup5, asTup6, asTup7, asTup8, asTup9, asAgg2, asAgg3, asAgg4, asAgg5, asAgg6, asAgg7, asAgg8, asAgg9, asAgg12, getD0, getD1, getD2, getD3, getD4, getD5, getD6, getD7, getD8, getD9, getD10, getD11, getD12, getD13, getD14, getD15, getD16, getD17, getD18, getD19, Bool.not_true, Bool.not_false, Bool.false_eq_true, Bool.true_eq_false, ↓reduceIte, decide_true, decide_false, Option.isNone_some, Option.isNone_none, Option.isSome_some, Option.isSome_none, beq_self_eq_true, bne_self_eq_false, Bool.and_true, Bool.true_and, Bool.and_false, Bool.false_and, not_true_eq_false, not_false_eq_true]
  rw [g4_l17_x0_of g1, g4_l17_x0]
end Go.Proofs.Ytlcojbodcbjkaaa
