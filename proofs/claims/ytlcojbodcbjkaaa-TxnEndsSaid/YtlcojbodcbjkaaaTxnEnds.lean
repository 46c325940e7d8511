/-
  TxnEnds: lemmas on what Go functions of this seat come to (for whatever arguments, as each says). No condition but those that stand in each lemma.
-/
import Derived.Test.YtlcojbodcbjkaaaTxnL5
import Derived.Test.YtlcojbodcbjkaaaTxnP
namespace Go.Proofs.Ytlcojbodcbjkaaa
open Go Go.Ev
set_option maxRecDepth 100000
set_option linter.unusedVariables false
set_option linter.unusedSimpArgs false

theorem ends_round {W x : World} {tb : Nat} {D : Nat → Prop} {A : List (Int × TV)} {u0 : Option Addr × Nat × Nat} (u1 : Bool) {next : Int} {k : Nat} {o : OV} {a : Addr} (h : LS W x tb D A next (k : Int)) (hn : 1 ≤ next ∧ next ≤ (k : Int) + 1) (hk : (k : Int) < (u0.2.1 : Int)) (hu : u0.2.1 ≤ 9223372036854775807) (i1 : idxA u0.1 u0.2.1 15 (k : Int) = some a) (l1 : ldN x a 0 15 = some o.cs) :
    ∃ next' D' A' x', g5_l6_b u0 (some ⟨tb, 0, none⟩) u1 (next, (k : Int)) x = some (.normal, (next', ((k + 1 : Nat) : Int)), x') ∧ LS W x' tb D' A' next' ((k + 1 : Nat) : Int) ∧ 1 ≤ next' ∧ next' ≤ ((k + 1 : Nat) : Int) + 1 := by
  have hs := wrap_succ (n := k) (by omega)
  obtain ⟨x1, s1, b1, f1, d1⟩ := newO x o
  obtain ⟨x2, D2, A2, e2, h2, _, _⟩ := life_do (h.step f1) o hn.1 (by omega)
  have hw : IntKind.u64.wrap (next + 1) = next + 1 := wrap_u64 (by omega) (by omega)
  have hk1 : decide ((k : Int) < (u0.2.1 : Int)) = true := by simp; omega
  simp only [OV.cs] at l1
  simp only [OV.arg] at e2
  have hc : ((k + 1 : Nat) : Int) = (k : Int) + 1 := by omega
  cases hok : (lifeP (tvOf A 0) o next).2 with
  | true =>
    rw [hok] at e2 h2
    refine ⟨next + 1, D2, A2, x2, ?_, by rw [hc]; simpa using h2, by omega, by omega⟩
    unfold g5_l6_b
    simp only [hk1, i1, l1, s1, d1, e2, hw, hs, obs, asP_pointer, asB_bool, asI_int, asS_string, asSl_slice, asM_map, asTup0, asTup1, asTup2, asTup3, asTup4, asTup5, asTup6, asTup7, asTup8, asTup9, asAgg2, asAgg3, asAgg4, asAgg5, asAgg6, asAgg7, asAgg8, asAgg9, asAgg12, getD0, getD1, getD2, getD3, getD4, getD5, getD6, getD7, getD8, getD9, getD10, getD11, getD12, getD13, getD14, getD15, getD16, getD17, getD18, getD19, Bool.not_true, Bool.not_false, Bool.false_eq_true, Bool.true_eq_false, ↓reduceIte, decide_true, decide_false, Option.isNone_some, Option.isNone_none, Option.isSome_some, Option.isSome_none, beq_self_eq_true, bne_self_eq_false, Bool.and_true, Bool.true_and, Bool.and_false, Bool.false_and, not_true_eq_false, not_false_eq_true]
  | false =>
    rw [hok] at e2 h2
    refine ⟨next, D2, A2, x2, ?_, by rw [hc]; simpa using h2, by omega, by omega⟩
    unfold g5_l6_b
    simp only [hk1, i1, l1, s1, d1, e2, hs, obs, asP_pointer, asB_bool, asI_int, asS_string, asSl_slice, asM_map, asTup0, asTup1, asTup2, asTup3, asTup4, asTup5, asTup6, asTup7, asTup8, asTup9, asAgg2, asAgg3, asAgg4, asAgg5, asAgg6, asAgg7, asAgg8, asAgg9, asAgg12, getD0, getD1, getD2, getD3, getD4, getD5, getD6, getD7, getD8, getD9, getD10, getD11, getD12, getD13, getD14, getD15, getD16, getD17, getD18, getD19, Bool.not_true, Bool.not_false, Bool.false_eq_true, Bool.true_eq_false, ↓reduceIte, decide_true, decide_false, Option.isNone_some, Option.isNone_none, Option.isSome_some, Option.isSome_none, beq_self_eq_true, bne_self_eq_false, Bool.and_true, Bool.true_and, Bool.and_false, Bool.false_and, not_true_eq_false, not_false_eq_true]

theorem ends_tail {W x : World} {tb : Nat} {D : Nat → Prop} {A : List (Int × TV)} {next m : Int} (u1 : Bool) (t48 : Int × Int) (hm : m ≤ 9223372036854775807) (h : LS W x tb D A next m) :
    ∃ w', g5_l6_x0 (some ⟨tb, 0, none⟩) u1 t48 x = some (.bool true, w') ∧ Fr [] W w' := by
  obtain ⟨q1, w1, e1, f1, o1, n1⟩ := tx21 h.tab 0 h.lenM
  obtain ⟨w2, s2, b2, f2⟩ := newT2 w1 (tvOf A 0) q1
  have h2 := (h.step f1).step f2
  obtain ⟨w3, e3, f3⟩ := end18 h2.tab 0 (tvOf A 0).pid (tvOf A 0).ep u1 h2.lenM
  have ltD := h.tab.lt
  have hli := h.li
  have hA : tvOf A 0 = tvOf A 0 := rfl
  obtain ⟨t, ht⟩ : ∃ t, tvOf A 0 = t := ⟨_, rfl⟩
  rw [ht] at e1 s2 b2 e3 hli
  have z1 := f1.size
  have z2 := f2.size
  have z3 := f3.size
  have hgT : ∀ y, D y → y ≠ w1.heap.size := fun y hy => by have := ltD y hy; omega
  have c0 : w2.cell? ⟨w1.heap.size, 0, none⟩ = some (.int .i64 t.st) := b2.cell 0
  have c1 : w2.cell? ⟨w1.heap.size, 1, none⟩ = some (.int .i64 t.inc) := b2.cell 1
  have c2 : w2.cell? ⟨w1.heap.size, 2, none⟩ = some (.int .u64 t.pid) := b2.cell 2
  have c3 : w2.cell? ⟨w1.heap.size, 3, none⟩ = some (.int .i64 t.ep) := b2.cell 3
  simp only [TV.arg] at e1
  have h3 := h2.step f3
  have hst := hli.st
  have hlast := hli.last
  have hprep := hli.prep
  by_cases s2' : t.st = 2
  · -- open
    have hlp : ¬ (t.ep = t.last ∧ t.pid = t.lpid) := fun hh => by have := hlast (by omega) hh.2.symm; omega
    have eE : endP t 0 t.pid t.ep u1 = (⟨3, 0, 0, 0, 0, [], u1⟩, true, 0) := by
      unfold endP
      rw [if_neg (by omega), if_neg (by omega), if_neg (fun hh => hlp ⟨hh.1, hh.2.1⟩), if_neg (fun hh => hlp ⟨hh.1, hh.2.1⟩), if_neg hlp, if_neg (by omega), if_neg (by omega)]
    rw [eE] at e3
    obtain ⟨w4, s4, b4, f4, d4⟩ := newR w3 ⟨3, 0, 0, 0, 0, [], u1⟩ (none, 0, 0)
    have h4 := h3.step f4
    obtain ⟨w5, D5, e5, t5, k5⟩ := apply13 (r := ⟨3, 0, 0, 0, 0, [], u1⟩) (rq := (none, 0, 0)) h4.tab ⟨rfl, by simp⟩ (by simp) (by simp) (by simp)
    have hr5 := prep_step hli s2' 0 0 0 0 u1
    have tv5 : tvOf (apA A ⟨3, 0, 0, 0, 0, [], u1⟩) 0 = stepT ⟨3, 0, 0, 0, 0, [], u1⟩ t := by rw [tvOf_apA, if_pos rfl, ht]
    have h5 := ls_chg h4 t5 k5 (n' := next) (m' := m) (by rw [tv5]; exact hr5.1)
    have es5 : stepT ⟨3, 0, 0, 0, 0, [], u1⟩ t = { t with st := 3, last := t.ep, lpid := t.pid, com := u1 } := by simp [stepT]
    rw [es5] at tv5 hr5
    obtain ⟨S5, f5, hS5⟩ := k5.fr
    have b5 := ((b2.fr f3 (by simp)).fr f4 (by simp)).fr f5 (fun hm => hgT _ (hS5 _ hm) rfl)
    generalize apA A ⟨3, 0, 0, 0, 0, [], u1⟩ = A5 at *
    -- asked again
    obtain ⟨w6, e6, f6⟩ := end18 h5.tab 0 t.pid t.ep u1 h5.lenM
    have p6 : endP { t with st := 3, last := t.ep, lpid := t.pid, com := u1 } 0 t.pid t.ep u1 = (rv0, false, 16) := by simp [endP]
    rw [tv5, p6] at e6
    obtain ⟨w7, s7, b7, f7, d7⟩ := newR w6 rv0 (none, 0, 0)
    have h7 := (h5.step f6).step f7
    have b57 := (b5.fr f6 (by simp)).fr f7 (by simp)
    obtain ⟨w8, e8, f8⟩ := end18 h7.tab 0 t.pid t.ep (!u1) h7.lenM
    have p8 : endP { t with st := 3, last := t.ep, lpid := t.pid, com := u1 } 0 t.pid t.ep (!u1) = (rv0, false, 14) := by cases u1 <;> simp [endP]
    rw [tv5, p8] at e8
    obtain ⟨w9, s9, b9, f9, d9⟩ := newR w8 rv0 (none, 0, 0)
    have h9 := (h7.step f8).step f9
    have b59 := (b57.fr f8 (by simp)).fr f9 (by simp)
    obtain ⟨q10, w10, e10, f10, _, _⟩ := add16 h9.tab 0 t.pid t.ep 1 h9.lenM
    have p10 : addP { t with st := 3, last := t.ep, lpid := t.pid, com := u1 } 0 t.pid t.ep 1 = (rv0, false, 16) := by simp [addP]
    rw [tv5, p10] at e10
    obtain ⟨w11, s11, b11, f11, d11⟩ := newR w10 rv0 q10
    have h11 := (h9.step f10).step f11
    have b511 := (b59.fr f10 (by simp)).fr f11 (by simp)
    -- done
    obtain ⟨w12, D12, e12, t12, k12⟩ := apply13 (r := ⟨4, 0, 0, 0, 0, [], false⟩) (rq := (none, 0, 0)) h11.tab ⟨rfl, by simp⟩ (by simp) (by simp) (by simp)
    obtain ⟨r1, r2, r3⟩ := done_step hr5.1 rfl
    have tv12 : tvOf (apA A5 ⟨4, 0, 0, 0, 0, [], false⟩) 0 = stepT ⟨4, 0, 0, 0, 0, [], false⟩ { t with st := 3, last := t.ep, lpid := t.pid, com := u1 } := by rw [tvOf_apA, if_pos rfl, tv5]
    have h12 := ls_chg h11 t12 k12 (n' := next) (m' := m) (by rw [tv12]; exact r1)
    rw [r3] at tv12
    obtain ⟨S12, f12, hS12⟩ := k12.fr
    have lt5 := h5.tab.lt
    have n5 := k5.new
    have hgT5 : ∀ y, D5 y → y ≠ w1.heap.size := fun y hy => by
      rcases n5 y hy with hh | hh
      · exact hgT y hh
      · have := f4.size; have := b2.lt; omega
    have b512 := b511.fr f12 (fun hm => hgT5 _ (hS12 _ hm) rfl)
    generalize apA A5 ⟨4, 0, 0, 0, 0, [], false⟩ = A12 at *
    obtain ⟨w13, e13, f13⟩ := end18 h12.tab 0 t.pid t.ep u1 h12.lenM
    have p13 : endP { t with st := 4, ep := t.ep + 2, parts := [], last := t.ep, lpid := t.pid, com := u1 } 0 t.pid t.ep u1 = (rv0, false, 0) := by simp [endP]
    rw [tv12] at e13
    simp only at e13
    rw [p13] at e13
    obtain ⟨w14, s14, b14, f14, d14⟩ := newR w13 rv0 (none, 0, 0)
    have h14 := (h12.step f13).step f14
    have b514 := (b512.fr f13 (by simp)).fr f14 (by simp)
    obtain ⟨w15, e15, f15⟩ := end18 h14.tab 0 t.pid t.ep (!u1) h14.lenM
    have p15 : endP { t with st := 4, ep := t.ep + 2, parts := [], last := t.ep, lpid := t.pid, com := u1 } 0 t.pid t.ep (!u1) = (rv0, false, 14) := by cases u1 <;> simp [endP]
    rw [tv12] at e15
    simp only at e15
    rw [p15] at e15
    obtain ⟨w16, s16, b16, f16, d16⟩ := newR w15 rv0 (none, 0, 0)
    have h16 := (h14.step f15).step f16
    have b516 := (b514.fr f15 (by simp)).fr f16 (by simp)
    obtain ⟨q17, w17, e17, f17, _, _⟩ := add16 h16.tab 0 t.pid t.ep 1 h16.lenM
    have p17 : addP { t with st := 4, ep := t.ep + 2, parts := [], last := t.ep, lpid := t.pid, com := u1 } 0 t.pid t.ep 1 = (rv0, false, 10) := by
      unfold addP
      rw [if_neg (by omega), if_neg (by omega), if_pos]
      simp
      omega
    rw [tv12] at e17
    simp only at e17
    rw [p17] at e17
    obtain ⟨w18, s18, b18, f18, d18⟩ := newR w17 rv0 q17
    have h18 := (h16.step f17).step f18
    have b518 := (b516.fr f17 (by simp)).fr f18 (by simp)
    have hinc := hli.inc
    obtain ⟨w19, e19, f19⟩ := init14 h18.tab 0 (IntKind.i64.wrap (t.inc - 1)) 9 h18.lenM
    have hwi : IntKind.i64.wrap (t.inc - 1) = t.inc - 1 := wrap_i64 (by omega) (by omega)
    have p19 : initP { t with st := 4, ep := t.ep + 2, parts := [], last := t.ep, lpid := t.pid, com := u1 } 0 (t.inc - 1) 9 = (rv0, false, 10) := by
      unfold initP
      rw [if_neg (by omega), if_pos]
      simp
      omega
    rw [tv12, hwi] at e19
    simp only at e19
    rw [p19] at e19
    obtain ⟨w20, s20, b20, f20, d20⟩ := newR w19 rv0 (none, 0, 0)
    have h20 := (h18.step f19).step f20
    have b520 := (b518.fr f19 (by simp)).fr f20 (by simp)
    have fd := Fr.drew [] w20
    have h21 := h20.step fd
    have b521 := b520.fr fd (by simp)
    obtain ⟨q22, w22, e22, f22, _, _⟩ := tx21 h21.tab 0 h21.lenM
    rw [tv12] at e22
    have h22 := h21.step f22
    have b522 := b521.fr f22 (by simp)
    have b24 := (b2.fr f3 (by simp)).fr f4 (by simp)
    have g0 : w4.cell? ⟨w1.heap.size, 0, none⟩ = some (.int .i64 t.st) := b24.cell 0
    have r0 : w4.cell? ⟨w3.heap.size, 0, none⟩ = some (.int .i64 3) := b4.cell 0
    have r6 : w4.cell? ⟨w3.heap.size, 6, none⟩ = some (.bool u1) := b4.cell 6
    have y52 : w5.cell? ⟨w1.heap.size, 2, none⟩ = some (.int .u64 t.pid) := b5.cell 2
    have y53 : w5.cell? ⟨w1.heap.size, 3, none⟩ = some (.int .i64 t.ep) := b5.cell 3
    have y72 : w7.cell? ⟨w1.heap.size, 2, none⟩ = some (.int .u64 t.pid) := b57.cell 2
    have y73 : w7.cell? ⟨w1.heap.size, 3, none⟩ = some (.int .i64 t.ep) := b57.cell 3
    have y92 : w9.cell? ⟨w1.heap.size, 2, none⟩ = some (.int .u64 t.pid) := b59.cell 2
    have y93 : w9.cell? ⟨w1.heap.size, 3, none⟩ = some (.int .i64 t.ep) := b59.cell 3
    have z122 : w12.cell? ⟨w1.heap.size, 2, none⟩ = some (.int .u64 t.pid) := b512.cell 2
    have z123 : w12.cell? ⟨w1.heap.size, 3, none⟩ = some (.int .i64 t.ep) := b512.cell 3
    have z142 : w14.cell? ⟨w1.heap.size, 2, none⟩ = some (.int .u64 t.pid) := b514.cell 2
    have z143 : w14.cell? ⟨w1.heap.size, 3, none⟩ = some (.int .i64 t.ep) := b514.cell 3
    have z162 : w16.cell? ⟨w1.heap.size, 2, none⟩ = some (.int .u64 t.pid) := b516.cell 2
    have z163 : w16.cell? ⟨w1.heap.size, 3, none⟩ = some (.int .i64 t.ep) := b516.cell 3
    have z181 : w18.cell? ⟨w1.heap.size, 1, none⟩ = some (.int .i64 t.inc) := b518.cell 1
    have z213 : w20.drew.cell? ⟨w1.heap.size, 3, none⟩ = some (.int .i64 t.ep) := b521.cell 3
    have z223 : w22.cell? ⟨w1.heap.size, 3, none⟩ = some (.int .i64 t.ep) := b522.cell 3
    have hep := hli.ep
    have hwe : IntKind.i64.wrap (t.ep + 2) = t.ep + 2 := wrap_i64 (by omega) (by omega)
    have k1 : (t.st != 2) = false := by simp [s2']
    simp only [RV.arg, rv0, TV.arg] at e3 s4 d4 e5 e6 s7 e8 s9 e10 s11 e12 e13 s14 e15 s16 e17 s18 e19 s20 e22
    refine ⟨w22, ?_, h22.fr⟩
    unfold g5_l6_x0
    rw [e1, obs]
    simp only [s2, addr_add, Nat.zero_add, c2, c3, e3, s4, g0, k1, obs, asP_pointer, asB_bool, asI_int, asS_string, asSl_slice, asM_map, asTup0, asTup1, asTup2, asTup3, asTup4, asTup5, asTup6, asTup7, asTup8, asTup9, asAgg2, asAgg3, asAgg4, asAgg5, asAgg6, asAgg7, asAgg8, asAgg9, asAgg12, getD0, getD1, getD2, getD3, getD4, getD5, getD6, getD7, getD8, getD9, getD10, getD11, getD12, getD13, getD14, getD15, getD16, getD17, getD18, getD19, Bool.not_true, Bool.not_false, Bool.false_eq_true, Bool.true_eq_false, ↓reduceIte, decide_true, decide_false, Option.isNone_some, Option.isNone_none, Option.isSome_some, Option.isSome_none, beq_self_eq_true, bne_self_eq_false, Bool.and_true, Bool.true_and, Bool.and_false, Bool.false_and, not_true_eq_false, not_false_eq_true]
    have kk1 : ((0 : Int) != 0) = false := rfl
    have kk2 : ((3 : Int) != 3) = false := rfl
    have kk3 : (!(u1 == u1)) = false := by simp
    simp only [kk1, r0, kk2, r6, kk3, d4, e5, obs, asP_pointer, asB_bool, asI_int, asS_string, asSl_slice, asM_map, asTup0, asTup1, asTup2, asTup3, asTup4, asTup5, asTup6, asTup7, asTup8, asTup9, asAgg2, asAgg3, asAgg4, asAgg5, asAgg6, asAgg7, asAgg8, asAgg9, asAgg12, getD0, getD1, getD2, getD3, getD4, getD5, getD6, getD7, getD8, getD9, getD10, getD11, getD12, getD13, getD14, getD15, getD16, getD17, getD18, getD19, Bool.not_true, Bool.not_false, Bool.false_eq_true, Bool.true_eq_false, ↓reduceIte, decide_true, decide_false, Option.isNone_some, Option.isNone_none, Option.isSome_some, Option.isSome_none, beq_self_eq_true, bne_self_eq_false, Bool.and_true, Bool.true_and, Bool.and_false, Bool.false_and, not_true_eq_false, not_false_eq_true]
    rw [y52, obs]
    simp only [y53, e6, s7, obs, asP_pointer, asB_bool, asI_int, asS_string, asSl_slice, asM_map, asTup0, asTup1, asTup2, asTup3, asTup4, asTup5, asTup6, asTup7, asTup8, asTup9, asAgg2, asAgg3, asAgg4, asAgg5, asAgg6, asAgg7, asAgg8, asAgg9, asAgg12, getD0, getD1, getD2, getD3, getD4, getD5, getD6, getD7, getD8, getD9, getD10, getD11, getD12, getD13, getD14, getD15, getD16, getD17, getD18, getD19, Bool.not_true, Bool.not_false, Bool.false_eq_true, Bool.true_eq_false, ↓reduceIte, decide_true, decide_false, Option.isNone_some, Option.isNone_none, Option.isSome_some, Option.isSome_none, beq_self_eq_true, bne_self_eq_false, Bool.and_true, Bool.true_and, Bool.and_false, Bool.false_and, not_true_eq_false, not_false_eq_true]
    rw [y72, obs]
    simp only [y73, e8, s9, obs, asP_pointer, asB_bool, asI_int, asS_string, asSl_slice, asM_map, asTup0, asTup1, asTup2, asTup3, asTup4, asTup5, asTup6, asTup7, asTup8, asTup9, asAgg2, asAgg3, asAgg4, asAgg5, asAgg6, asAgg7, asAgg8, asAgg9, asAgg12, getD0, getD1, getD2, getD3, getD4, getD5, getD6, getD7, getD8, getD9, getD10, getD11, getD12, getD13, getD14, getD15, getD16, getD17, getD18, getD19, Bool.not_true, Bool.not_false, Bool.false_eq_true, Bool.true_eq_false, ↓reduceIte, decide_true, decide_false, Option.isNone_some, Option.isNone_none, Option.isSome_some, Option.isSome_none, beq_self_eq_true, bne_self_eq_false, Bool.and_true, Bool.true_and, Bool.and_false, Bool.false_and, not_true_eq_false, not_false_eq_true]
    rw [y92, obs]
    simp only [y93, e10, s11, e12, obs, asP_pointer, asB_bool, asI_int, asS_string, asSl_slice, asM_map, asTup0, asTup1, asTup2, asTup3, asTup4, asTup5, asTup6, asTup7, asTup8, asTup9, asAgg2, asAgg3, asAgg4, asAgg5, asAgg6, asAgg7, asAgg8, asAgg9, asAgg12, getD0, getD1, getD2, getD3, getD4, getD5, getD6, getD7, getD8, getD9, getD10, getD11, getD12, getD13, getD14, getD15, getD16, getD17, getD18, getD19, Bool.not_true, Bool.not_false, Bool.false_eq_true, Bool.true_eq_false, ↓reduceIte, decide_true, decide_false, Option.isNone_some, Option.isNone_none, Option.isSome_some, Option.isSome_none, beq_self_eq_true, bne_self_eq_false, Bool.and_true, Bool.true_and, Bool.and_false, Bool.false_and, not_true_eq_false, not_false_eq_true]
    rw [z122, obs]
    simp only [z123, e13, s14, obs, asP_pointer, asB_bool, asI_int, asS_string, asSl_slice, asM_map, asTup0, asTup1, asTup2, asTup3, asTup4, asTup5, asTup6, asTup7, asTup8, asTup9, asAgg2, asAgg3, asAgg4, asAgg5, asAgg6, asAgg7, asAgg8, asAgg9, asAgg12, getD0, getD1, getD2, getD3, getD4, getD5, getD6, getD7, getD8, getD9, getD10, getD11, getD12, getD13, getD14, getD15, getD16, getD17, getD18, getD19, Bool.not_true, Bool.not_false, Bool.false_eq_true, Bool.true_eq_false, ↓reduceIte, decide_true, decide_false, Option.isNone_some, Option.isNone_none, Option.isSome_some, Option.isSome_none, beq_self_eq_true, bne_self_eq_false, Bool.and_true, Bool.true_and, Bool.and_false, Bool.false_and, not_true_eq_false, not_false_eq_true]
    rw [z142, obs]
    simp only [z143, e15, s16, obs, asP_pointer, asB_bool, asI_int, asS_string, asSl_slice, asM_map, asTup0, asTup1, asTup2, asTup3, asTup4, asTup5, asTup6, asTup7, asTup8, asTup9, asAgg2, asAgg3, asAgg4, asAgg5, asAgg6, asAgg7, asAgg8, asAgg9, asAgg12, getD0, getD1, getD2, getD3, getD4, getD5, getD6, getD7, getD8, getD9, getD10, getD11, getD12, getD13, getD14, getD15, getD16, getD17, getD18, getD19, Bool.not_true, Bool.not_false, Bool.false_eq_true, Bool.true_eq_false, ↓reduceIte, decide_true, decide_false, Option.isNone_some, Option.isNone_none, Option.isSome_some, Option.isSome_none, beq_self_eq_true, bne_self_eq_false, Bool.and_true, Bool.true_and, Bool.and_false, Bool.false_and, not_true_eq_false, not_false_eq_true]
    rw [z162, obs]
    simp only [z163, e17, s18, obs, asP_pointer, asB_bool, asI_int, asS_string, asSl_slice, asM_map, asTup0, asTup1, asTup2, asTup3, asTup4, asTup5, asTup6, asTup7, asTup8, asTup9, asAgg2, asAgg3, asAgg4, asAgg5, asAgg6, asAgg7, asAgg8, asAgg9, asAgg12, getD0, getD1, getD2, getD3, getD4, getD5, getD6, getD7, getD8, getD9, getD10, getD11, getD12, getD13, getD14, getD15, getD16, getD17, getD18, getD19, Bool.not_true, Bool.not_false, Bool.false_eq_true, Bool.true_eq_false, ↓reduceIte, decide_true, decide_false, Option.isNone_some, Option.isNone_none, Option.isSome_some, Option.isSome_none, beq_self_eq_true, bne_self_eq_false, Bool.and_true, Bool.true_and, Bool.and_false, Bool.false_and, not_true_eq_false, not_false_eq_true]
    rw [z181, obs]
    simp only [hwi, e19, s20, obs, asP_pointer, asB_bool, asI_int, asS_string, asSl_slice, asM_map, asTup0, asTup1, asTup2, asTup3, asTup4, asTup5, asTup6, asTup7, asTup8, asTup9, asAgg2, asAgg3, asAgg4, asAgg5, asAgg6, asAgg7, asAgg8, asAgg9, asAgg12, getD0, getD1, getD2, getD3, getD4, getD5, getD6, getD7, getD8, getD9, getD10, getD11, getD12, getD13, getD14, getD15, getD16, getD17, getD18, getD19, Bool.not_true, Bool.not_false, Bool.false_eq_true, Bool.true_eq_false, ↓reduceIte, decide_true, decide_false, Option.isNone_some, Option.isNone_none, Option.isSome_some, Option.isSome_none, beq_self_eq_true, bne_self_eq_false, Bool.and_true, Bool.true_and, Bool.and_false, Bool.false_and, not_true_eq_false, not_false_eq_true]
    simp only [g5_j220, g5_j225, g5_j230, g5_j235, g5_j240, g5_j245, g5_j280a, g5_j280b, g5_j285, addr_add, Nat.zero_add, e22, z213, z223, hwe, ite_self, obs, asP_pointer, asB_bool, asI_int, asS_string, asSl_slice, asM_map, asTup0, asTup1, asTup2, asTup3, asTup4, asTup5, asTup6, asTup7, asTup8, asTup9, asAgg2, asAgg3, asAgg4, asAgg5, asAgg6, asAgg7, asAgg8, asAgg9, asAgg12, getD0, getD1, getD2, getD3, getD4, getD5, getD6, getD7, getD8, getD9, getD10, getD11, getD12, getD13, getD14, getD15, getD16, getD17, getD18, getD19, Bool.not_true, Bool.not_false, Bool.false_eq_true, Bool.true_eq_false, ↓reduceIte, decide_true, decide_false, Option.isNone_some, Option.isNone_none, Option.isSome_some, Option.isSome_none, beq_self_eq_true, bne_self_eq_false, Bool.and_true, Bool.true_and, Bool.and_false, Bool.false_and, not_true_eq_false, not_false_eq_true]
  · have eE : ∃ e, endP t 0 t.pid t.ep u1 = (rv0, false, e) ∧ (t.st = 3 ∨ e ≠ 0 ∨ t.st = 0) := by
      by_cases s0 : t.st = 0
      · exact ⟨10, by unfold endP; rw [if_neg (by omega), if_pos (.inl s0)], .inr (.inr s0)⟩
      by_cases s3 : t.st = 3
      · obtain ⟨p1, p2, _⟩ := hprep s3
        by_cases hc : t.com = u1
        · exact ⟨16, by unfold endP; rw [if_neg (by omega), if_neg (by omega), if_neg (fun hh => hh.2.2 hc), if_pos ⟨p1.symm, p2.symm, s3⟩], .inl s3⟩
        · exact ⟨14, by unfold endP; rw [if_neg (by omega), if_neg (by omega), if_pos ⟨p1.symm, p2.symm, hc⟩], .inl s3⟩
      · have hlp : ¬ (t.ep = t.last ∧ t.pid = t.lpid) := fun hh => by have := hlast s3 hh.2.symm; omega
        exact ⟨14, by unfold endP; rw [if_neg (by omega), if_neg (by omega), if_neg (fun hh => hlp ⟨hh.1, hh.2.1⟩), if_neg (fun hh => hlp ⟨hh.1, hh.2.1⟩), if_neg hlp, if_neg (by omega), if_pos s2'], .inr (.inl (by omega))⟩
    obtain ⟨e, eE, hor⟩ := eE
    rw [eE] at e3
    obtain ⟨w4, s4, b4, f4, d4⟩ := newR w3 rv0 (none, 0, 0)
    have g0 : w4.cell? ⟨w1.heap.size, 0, none⟩ = some (.int .i64 t.st) := ((b2.fr f3 (by simp)).fr f4 (by simp)).cell 0
    have k1 : (t.st != 2) = true := by simp [s2']
    have h4 := h3.step f4
    refine ⟨w4, ?_, h4.fr⟩
    simp only [RV.arg, rv0] at e3 s4
    unfold g5_l6_x0
    simp only [e1, s2, addr_add, Nat.zero_add, c2, c3, e3, s4, g0, k1, obs, asP_pointer, asB_bool, asI_int, asS_string, asSl_slice, asM_map, asTup0, asTup1, asTup2, asTup3, asTup4, asTup5, asTup6, asTup7, asTup8, asTup9, asAgg2, asAgg3, asAgg4, asAgg5, asAgg6, asAgg7, asAgg8, asAgg9, asAgg12, getD0, getD1, getD2, getD3, getD4, getD5, getD6, getD7, getD8, getD9, getD10, getD11, getD12, getD13, getD14, getD15, getD16, getD17, getD18, getD19, Bool.not_true, Bool.not_false, Bool.false_eq_true, Bool.true_eq_false, ↓reduceIte, decide_true, decide_false, Option.isNone_some, Option.isNone_none, Option.isSome_some, Option.isSome_none, beq_self_eq_true, bne_self_eq_false, Bool.and_true, Bool.true_and, Bool.and_false, Bool.false_and, not_true_eq_false, not_false_eq_true]
    by_cases s3 : t.st = 3
    · simp [s3]
    · by_cases s0 : t.st = 0
      · simp [s0]
      · have : e ≠ 0 := by rcases hor with hh | hh | hh; exact absurd hh s3; exact hh; exact absurd hh s0
        simp [s3, this]

theorem TxnEnds_main (W : World) (x0 : (Ty.slice (.cons (.int .i64) (.cons (.int .i64) (.cons (.int .i64) (.cons (.int .i64) (.cons (.int .i64) (.cons (.int .u64) (.cons .bool (.cons .bool (.cons (.cons (.int .i64) (.cons (.int .i64) (.cons (.int .i64) (.cons (.int .u64) (.cons (.int .i64) (.cons (.slice (.int .i64)) (.cons .bool .nil))))))) .nil)))))))))).Val) (h0 : (Ty.slice (.cons (.int .i64) (.cons (.int .i64) (.cons (.int .i64) (.cons (.int .i64) (.cons (.int .i64) (.cons (.int .u64) (.cons .bool (.cons .bool (.cons (.cons (.int .i64) (.cons (.int .i64) (.cons (.int .i64) (.cons (.int .u64) (.cons (.int .i64) (.cons (.slice (.int .i64)) (.cons .bool .nil))))))) .nil)))))))))).At W [.slice x0.1.1 x0.1.2.1 x0.1.2.2] x0) (b1 : Bool) :
    ∃ w', callF Try.prog 5 #[.slice x0.1.1 x0.1.2.1 x0.1.2.2, .bool b1] W = some (.bool true, w') ∧ Fr [] W w' := by
  have hml : maxLen = 9223372036854775807 := by decide
  have hl1 : x0.2.length = x0.1.2.1 := h0.2.1
  have hl2 : x0.1.2.1 ≤ x0.1.2.2 := h0.2.2.1
  have hl3 : x0.1.2.2 ≤ maxLen := h0.2.2.2.1
  obtain ⟨w1, D1, e1, t1, f1, n1⟩ := new10 W
  obtain ⟨w2, e2, f2⟩ := awake11 w1
  have h2 : LS W w2 (W.heap.size + 1) D1 [] 1 0 := ⟨t1.fr f2 (by simp), LI.zero_, (Fr.mono (Fr.app f1 f2) (by have z0_ := Fr.size f1; have z1_ := Fr.size f2; intro y_ hy_ hl_; grind [blkOf])), n1⟩
  obtain ⟨t, w3, g1, next, D3, A3, rfl, h3, _, _⟩ := loopS_countX 0 (b := g5_l6_b x0.1 (some ⟨W.heap.size + 1, 0, none⟩) b1) (I := fun k s x => ∃ (next : Int) (D : Nat → Prop) (A : List (Int × TV)), s = (next, (k : Int)) ∧ LS W x (W.heap.size + 1) D A next (k : Int) ∧ 1 ≤ next ∧ next ≤ (k : Int) + 1) (n := x0.2.length)
    (fun k s x hk ⟨next, D, A, hs, h, hn1, hn2⟩ => by
      subst hs
      have hold : Old W x := (Old.refl W).fr h.fr (by simp)
      obtain ⟨a, i1, l1⟩ := op_at (at_old hold _ _ _ h0) hk
      obtain ⟨next', D', A', x', e, h', q1, q2⟩ := ends_round (u0 := x0.1) b1 h ⟨hn1, hn2⟩ (by omega) (by omega) i1 l1
      exact ⟨_, x', e, next', D', A', rfl, h', q1, q2⟩)
    (fun s x ⟨next, D, A, hs, _⟩ => by
      subst hs
      unfold g5_l6_b
      have : decide ((x0.2.length : Int) < (x0.1.2.1 : Int)) = false := by simp; omega
      simp only [this, Bool.false_eq_true, if_false]) (k := 0) (s := (1, 0)) (w := w2) (Nat.zero_le _) ⟨1, D1, [], rfl, h2, by omega, by omega⟩
  obtain ⟨w4, e4, f4⟩ := ends_tail b1 (next, (x0.2.length : Int)) (by omega) h3
  refine ⟨w4, g5_call ?_, f4⟩
  unfold g5
  simp only [e1, e2, obs, asP_pointer, asB_bool, asI_int, asS_string, asSl_slice, asM_map, asTup0, asTup1, asTup2, asTup3, asTup4, asTup5, asTup6, asTup7, asTup8, asTup9, asAgg2, asAgg3, asAgg4, asAgg5, asAgg6, asAgg7, asAgg8, asAgg9, asAgg12, getD0, getD1, getD2, getD3, getD4, getD5, getD6, getD7, getD8, getD9, getD10, getD11, getD12, getD13, getD14, getD15, getD16, getD17, getD18, getD19, Bool.not_true, Bool.not_false, Bool.false_eq_true, Bool.true_eq_false, ↓reduceIte, decide_true, decide_false, Option.isNone_some, Option.isNone_none, Option.isSome_some, Option.isSome_none, beq_self_eq_true, bne_self_eq_false, Bool.and_true, Bool.true_and, Bool.and_false, Bool.false_and, not_true_eq_false, not_false_eq_true]
  rw [g5_l6_x0_of g1, e4]
end Go.Proofs.Ytlcojbodcbjkaaa
