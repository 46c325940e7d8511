/-
  TxnM: lemmas on what Go functions of this seat come to (for whatever arguments, as each says). No condition but those that stand in each lemma.
-/
import Derived.Test.YtlcojbodcbjkaaaTxnF1
import Derived.Test.YtlcojbodcbjkaaaTxnK
namespace Go.Proofs.Ytlcojbodcbjkaaa
open Go Go.Ev
set_option maxRecDepth 100000
set_option linter.unusedVariables false
set_option linter.unusedSimpArgs false

/-- an Op -/
structure OV where
  k : Int
  n : Int
  inc : Int
  ep : Int
  part : Int
  pid : Int
  com : Bool
  doit : Bool
  rk : Int
  rtx : Int
  rinc : Int
  rpid : Int
  rep : Int
  rq : Option Addr × Nat × Nat
  rcom : Bool
def OV.cs (o : OV) : List Value := [.int .i64 o.k, .int .i64 o.n, .int .i64 o.inc, .int .i64 o.ep, .int .i64 o.part, .int .u64 o.pid, .bool o.com, .bool o.doit, .int .i64 o.rk, .int .i64 o.rtx, .int .i64 o.rinc, .int .u64 o.rpid, .int .i64 o.rep, .slice o.rq.1 o.rq.2.1 o.rq.2.2, .bool o.rcom]
def OV.arg (o : OV) : Value := .agg #[.int .i64 o.k, .int .i64 o.n, .int .i64 o.inc, .int .i64 o.ep, .int .i64 o.part, .int .u64 o.pid, .bool o.com, .bool o.doit, .int .i64 o.rk, .int .i64 o.rtx, .int .i64 o.rinc, .int .u64 o.rpid, .int .i64 o.rep, .slice o.rq.1 o.rq.2.1 o.rq.2.2, .bool o.rcom]

/-- what a life decides -/
def lifeP (t : TV) (o : OV) (next : Int) : RV × Bool :=
  if o.k = 0 then ((initP t 0 (IntKind.i64.wrap (t.inc + Int.tmod (IntKind.i64.wrap (Int.tmod o.inc 2 + 2)) 2)) next).1, (initP t 0 (IntKind.i64.wrap (t.inc + Int.tmod (IntKind.i64.wrap (Int.tmod o.inc 2 + 2)) 2)) next).2.1)
  else if o.k = 1 then ((addP t 0 t.pid t.ep (Int.tmod (IntKind.i64.wrap (Int.tmod o.part 6 + 6)) 6)).1, (addP t 0 t.pid t.ep (Int.tmod (IntKind.i64.wrap (Int.tmod o.part 6 + 6)) 6)).2.1)
  else if o.k = 2 then ((endP t 0 t.pid t.ep o.com).1, (endP t 0 t.pid t.ep o.com).2.1)
  else (⟨4, 0, 0, 0, 0, [], false⟩, t.st == 3)

theorem initP_tx (t : TV) (i p : Int) : (initP t 0 i p).1.tx = 0 ∧ (initP t 0 i p).1.parts = [] := by
  unfold initP
  repeat' split
  all_goals first | exact ⟨rfl, rfl⟩
theorem addP_tx (t : TV) (p e a : Int) : (addP t 0 p e a).1.tx = 0 ∧ (addP t 0 p e a).1.parts.length ≤ 1 := by
  unfold addP
  repeat' split
  all_goals first | exact ⟨rfl, by simp [rv0]⟩
theorem endP_tx (t : TV) (p e : Int) (c : Bool) : (endP t 0 p e c).1.tx = 0 ∧ (endP t 0 p e c).1.parts = [] := by
  unfold endP
  repeat' split
  all_goals first | exact ⟨rfl, rfl⟩

section
variable {w : World} {D : Nat → Prop} {tb : Nat} {A : List (Int × TV)}

theorem life_tail {x w11 : World} {r : RV} {q : Option Addr × Nat × Nat} {cs : List Value} (ok : Bool) (ht : Tb x D tb A) (hb : Blk x w11.heap.size cs 30) (hl : cs.length = 7) (hg : ¬ D w11.heap.size) (sl : SlC x 1 q (intsV' r.parts)) (hq : 0 < r.parts.length → ∀ y ∈ blkOf q, ¬ D y ∧ y ≠ w11.heap.size)
    (hr : r.tx = 0 ∧ r.parts.length ≤ 1) (hp : (tvOf A 0).parts.length ≤ 6) :
    ∃ x1 w' D', stL x ⟨w11.heap.size, 0, none⟩ [.int .i64 r.k, .int .i64 r.tx, .int .i64 r.inc, .int .u64 r.pid, .int .i64 r.ep, .slice q.1 q.2.1 q.2.2, .bool r.com] 0 = some x1 ∧ g24_j12 w11 (some ⟨tb, 0, none⟩) ok x1 = some (.bool ok, w') ∧ Tb w' D' tb (if ok then apA A r else A) ∧ Fr [w11.heap.size] x x1 ∧ Chg D x1 w' D' := by
  obtain ⟨x1, h1, h2, h3⟩ := hb.stL (vs := r.cs q) (by rw [hl]; rfl) (rvcs_oc r q)
  have l1 := h2.ldN (n := 7) rfl
  have t1 := ht.fr h3 (by intro y hy _; simp at hy; subst hy; exact hg)
  cases ok with
  | false =>
    refine ⟨x1, x1, D, h1, ?_, t1, h3, ?_⟩
    · unfold g24_j12; rfl
    · exact Chg.refl _ _
  | true =>
    have sl1 := sl.fr h3 (fun h0 y hy hm => by simp at hm; exact (hq (by simpa using h0) y hy).2 hm)
    have hal := addAll_len (tvOf A 0).parts r.parts
    obtain ⟨w', D', e, t', c⟩ := apply13 t1 sl1 (fun h0 y hy => ⟨(hq h0 y hy).1, sl1.lt (by simpa using h0) y hy⟩) (fun _ => by rw [hr.1]; omega) (fun _ => by rw [hr.1]; omega)
    refine ⟨x1, w', D', h1, ?_, t', h3, c⟩
    simp only [RV.cs] at l1
    simp only [RV.arg] at e
    unfold g24_j12
    simp only [l1, e, obs, asP_pointer, asB_bool, asI_int, asS_string, asSl_slice, asM_map, asTup0, asTup1, asTup2, asTup3, asTup4, asTup5, asTup6, asTup7, asTup8, asTup9, asAgg2, asAgg3, asAgg4, asAgg5, asAgg6, asAgg7, asAgg8, asAgg9, asAgg12, getD0, getD1, getD2, getD3, getD4, getD5, getD6, getD7, getD8, getD9, getD10, getD11, getD12, getD13, getD14, getD15, getD16, getD17, getD18, getD19, Bool.not_true, Bool.not_false, Bool.false_eq_true, Bool.true_eq_false, ↓reduceIte, decide_true, decide_false, Option.isNone_some, Option.isNone_none, Option.isSome_some, Option.isSome_none, beq_self_eq_true, bne_self_eq_false, Bool.and_true, Bool.true_and, Bool.and_false, Bool.false_and, not_true_eq_false, not_false_eq_true]

theorem life24 (h : Tb w D tb A) (o : OV) (next : Int) (hp : ∀ v, kget A 0 = some v → v.parts.length ≤ 6) :
    ∃ w' D', callF Try.prog 24 #[.pointer (some ⟨tb, 0, none⟩), o.arg, .int .u64 next] w = some (.bool (lifeP (tvOf A 0) o next).2, w') ∧ Tb w' D' tb (if (lifeP (tvOf A 0) o next).2 then apA A (lifeP (tvOf A 0) o next).1 else A) ∧ Chg D w w' D' := by
  have ltD := h.lt
  have f1 : Fr [] w (w.alloc (.cells #[.int .i64 o.k, .int .i64 o.n, .int .i64 o.inc, .int .i64 o.ep, .int .i64 o.part, .int .u64 o.pid, .bool o.com, .bool o.doit, .int .i64 o.rk, .int .i64 o.rtx, .int .i64 o.rinc, .int .u64 o.rpid, .int .i64 o.rep, .slice o.rq.1 o.rq.2.1 o.rq.2.2, .bool o.rcom] 32)) := Fr.alloc _
  have b1 : Blk (w.alloc (.cells #[.int .i64 o.k, .int .i64 o.n, .int .i64 o.inc, .int .i64 o.ep, .int .i64 o.part, .int .u64 o.pid, .bool o.com, .bool o.doit, .int .i64 o.rk, .int .i64 o.rtx, .int .i64 o.rinc, .int .u64 o.rpid, .int .i64 o.rep, .slice o.rq.1 o.rq.2.1 o.rq.2.2, .bool o.rcom] 32)) w.heap.size o.cs 32 := Blk.new w o.cs 32
  obtain ⟨w1, hw1⟩ : ∃ w1, w.alloc (.cells #[.int .i64 o.k, .int .i64 o.n, .int .i64 o.inc, .int .i64 o.ep, .int .i64 o.part, .int .u64 o.pid, .bool o.com, .bool o.doit, .int .i64 o.rk, .int .i64 o.rtx, .int .i64 o.rinc, .int .u64 o.rpid, .int .i64 o.rep, .slice o.rq.1 o.rq.2.1 o.rq.2.2, .bool o.rcom] 32) = w1 := ⟨_, rfl⟩
  rw [hw1] at f1 b1
  have hp' : ∀ v, kget A 0 = some v → v.parts.length ≤ 1000000000 := fun v hv => by have := hp v hv; omega
  obtain ⟨q, w2, e2, f2, o2, n2⟩ := tx21 (h.fr f1 (by simp)) 0 hp'
  have htp : (tvOf A 0).parts.length ≤ 6 := by
    unfold tvOf
    cases hk : kget A 0 with
    | none => simp [tv0]
    | some v => exact hp v hk
  obtain ⟨z3, f3⟩ := zero46 w2
  obtain ⟨w3, s3, b3, g3⟩ := z3.stL (vs := (tvOf A 0).cs q) rfl (tvcs_oc _ _)
  have zz1 := f1.size
  have zz2 := f2.size
  have zz3 := f3.size
  have zz3' := g3.size
  have F3 : Fr [] w w3 := (f1.app (f2.app (f3.app g3))).mono (by intro y hy hl; simp at hy; omega)
  obtain ⟨b4, f4⟩ := zero30 w3
  obtain ⟨w4, hw4⟩ : ∃ w4, w3.alloc (.cells #[.int .i64 0, .int .i64 0, .int .i64 0, .int .u64 0, .int .i64 0, .slice none 0 0, .bool false] 30) = w4 := ⟨_, rfl⟩
  rw [hw4] at b4 f4
  have F4 : Fr [] w w4 := (Fr.mono (Fr.app F3 f4) (by have z0_ := Fr.size F3; have z1_ := Fr.size f4; intro y_ hy_ hl_; grind [blkOf]))
  have ht4 := h.fr F4 (by simp)
  have bt4 := b3.fr f4 (by simp)
  have bo4 := ((b1.fr f2 (by simp)).fr f3 (by simp)).fr g3 (by simp; have := b1.lt; omega)
  have bo4 := bo4.fr f4 (by simp)
  have hg : ¬ D w3.heap.size := fun hd => by have := ltD _ hd; have := F3.size; omega
  have zz4 := F3.size
  have k0 : w4.cell? ⟨w.heap.size, 0, none⟩ = some (.int .i64 o.k) := bo4.cell 0
  have k2 : w4.cell? ⟨w.heap.size, 2, none⟩ = some (.int .i64 o.inc) := bo4.cell 2
  have k4 : w4.cell? ⟨w.heap.size, 4, none⟩ = some (.int .i64 o.part) := bo4.cell 4
  have k6 : w4.cell? ⟨w.heap.size, 6, none⟩ = some (.bool o.com) := bo4.cell 6
  have t1 : w4.cell? ⟨w2.heap.size, 1, none⟩ = some (.int .i64 (tvOf A 0).inc) := bt4.cell 1
  have t2 : w4.cell? ⟨w2.heap.size, 2, none⟩ = some (.int .u64 (tvOf A 0).pid) := bt4.cell 2
  have t3 : w4.cell? ⟨w2.heap.size, 3, none⟩ = some (.int .i64 (tvOf A 0).ep) := bt4.cell 3
  have hchg : ∀ {x x1 w' : World} {D' : Nat → Prop}, Fr [] w x → w3.heap.size < x.heap.size → Fr [w3.heap.size] x x1 → Chg D x1 w' D' → Chg D w w' D' := by
    intro x x1 w' D' hx hlt h1 c
    obtain ⟨S, f, hS⟩ := c.fr
    have n := c.new
    have zx := hx.size
    have z1 := h1.size
    refine ⟨⟨S, ((hx.app h1).app f).mono (by intro y hy hl; simp at hy; rcases hy with hy | hy; omega; exact hy), hS⟩, c.up, fun y hy => (n y hy).imp id (fun hh => by omega)⟩
  have lt4 := b4.lt
  suffices H : ∃ w' D', g24 (some ⟨tb, 0, none⟩) o.k o.n o.inc o.ep o.part o.pid o.com o.doit o.rk o.rtx o.rinc o.rpid o.rep o.rq o.rcom next w = some (.bool (lifeP (tvOf A 0) o next).2, w') ∧ Tb w' D' tb (if (lifeP (tvOf A 0) o next).2 then apA A (lifeP (tvOf A 0) o next).1 else A) ∧ Chg D w w' D' by
    obtain ⟨w', D', e, f⟩ := H
    exact ⟨w', D', g24_call e, f⟩
  simp only [TV.cs] at s3
  simp only [TV.arg] at e2
  unfold g24
  rw [hw1]
  simp only [e2, s3, hw4, addr_add, Nat.zero_add, k0, k2, k4, k6, t1, t2, t3, obs, asP_pointer, asB_bool, asI_int, asS_string, asSl_slice, asM_map, asTup0, asTup1, asTup2, asTup3, asTup4, asTup5, asTup6, asTup7, asTup8, asTup9, asAgg2, asAgg3, asAgg4, asAgg5, asAgg6, asAgg7, asAgg8, asAgg9, asAgg12, getD0, getD1, getD2, getD3, getD4, getD5, getD6, getD7, getD8, getD9, getD10, getD11, getD12, getD13, getD14, getD15, getD16, getD17, getD18, getD19, Bool.not_true, Bool.not_false, Bool.false_eq_true, Bool.true_eq_false, ↓reduceIte, decide_true, decide_false, Option.isNone_some, Option.isNone_none, Option.isSome_some, Option.isSome_none, beq_self_eq_true, bne_self_eq_false, Bool.and_true, Bool.true_and, Bool.and_false, Bool.false_and, not_true_eq_false, not_false_eq_true]
  by_cases h0 : o.k = 0
  · have c0 : (o.k == 0) = true := by simp [h0]
    have hl : lifeP (tvOf A 0) o next = ((initP (tvOf A 0) 0 (IntKind.i64.wrap ((tvOf A 0).inc + Int.tmod (IntKind.i64.wrap (Int.tmod o.inc 2 + 2)) 2)) next).1, (initP (tvOf A 0) 0 (IntKind.i64.wrap ((tvOf A 0).inc + Int.tmod (IntKind.i64.wrap (Int.tmod o.inc 2 + 2)) 2)) next).2.1) := by unfold lifeP; rw [if_pos h0]
    rw [hl]
    obtain ⟨w5, e5, f5⟩ := init14 ht4 0 (IntKind.i64.wrap ((tvOf A 0).inc + Int.tmod (IntKind.i64.wrap (Int.tmod o.inc 2 + 2)) 2)) next hp'
    obtain ⟨i1, i2⟩ := initP_tx (tvOf A 0) (IntKind.i64.wrap ((tvOf A 0).inc + Int.tmod (IntKind.i64.wrap (Int.tmod o.inc 2 + 2)) 2)) next
    generalize initP (tvOf A 0) 0 (IntKind.i64.wrap ((tvOf A 0).inc + Int.tmod (IntKind.i64.wrap (Int.tmod o.inc 2 + 2)) 2)) next = d at *
    obtain ⟨x1, w', D', s6, e6, t6, f6, c6⟩ := life_tail (r := d.1) (q := (none, 0, 0)) d.2.1 (ht4.fr f5 (by simp)) (b4.fr f5 (by simp)) rfl hg (by rw [i2]; exact ⟨rfl, by simp⟩) (by rw [i2]; simp) ⟨i1, by rw [i2]; simp⟩ htp
    have z5 := f5.size
    refine ⟨w', D', ?_, t6, hchg (Fr.mono (Fr.app F4 f5) (by have z0_ := Fr.size F4; have z1_ := Fr.size f5; intro y_ hy_ hl_; grind [blkOf])) (by omega) f6 c6⟩
    simp only [RV.arg] at e5
    simp only [c0, e5, s6, e6, obs, asP_pointer, asB_bool, asI_int, asS_string, asSl_slice, asM_map, asTup0, asTup1, asTup2, asTup3, asTup4, asTup5, asTup6, asTup7, asTup8, asTup9, asAgg2, asAgg3, asAgg4, asAgg5, asAgg6, asAgg7, asAgg8, asAgg9, asAgg12, getD0, getD1, getD2, getD3, getD4, getD5, getD6, getD7, getD8, getD9, getD10, getD11, getD12, getD13, getD14, getD15, getD16, getD17, getD18, getD19, Bool.not_true, Bool.not_false, Bool.false_eq_true, Bool.true_eq_false, ↓reduceIte, decide_true, decide_false, Option.isNone_some, Option.isNone_none, Option.isSome_some, Option.isSome_none, beq_self_eq_true, bne_self_eq_false, Bool.and_true, Bool.true_and, Bool.and_false, Bool.false_and, not_true_eq_false, not_false_eq_true]
  have c0 : (o.k == 0) = false := by simp [h0]
  by_cases h1 : o.k = 1
  · have c1 : (o.k == 1) = true := by simp [h1]
    have hl : lifeP (tvOf A 0) o next = ((addP (tvOf A 0) 0 (tvOf A 0).pid (tvOf A 0).ep (Int.tmod (IntKind.i64.wrap (Int.tmod o.part 6 + 6)) 6)).1, (addP (tvOf A 0) 0 (tvOf A 0).pid (tvOf A 0).ep (Int.tmod (IntKind.i64.wrap (Int.tmod o.part 6 + 6)) 6)).2.1) := by unfold lifeP; rw [if_neg h0, if_pos h1]
    rw [hl]
    obtain ⟨q5, w5, e5, f5, sl5, n5⟩ := add16 ht4 0 (tvOf A 0).pid (tvOf A 0).ep (Int.tmod (IntKind.i64.wrap (Int.tmod o.part 6 + 6)) 6) hp'
    have i1 := addP_tx (tvOf A 0) (tvOf A 0).pid (tvOf A 0).ep (Int.tmod (IntKind.i64.wrap (Int.tmod o.part 6 + 6)) 6)
    generalize addP (tvOf A 0) 0 (tvOf A 0).pid (tvOf A 0).ep (Int.tmod (IntKind.i64.wrap (Int.tmod o.part 6 + 6)) 6) = d at *
    obtain ⟨x1, w', D', s6, e6, t6, f6, c6⟩ := life_tail (r := d.1) (q := q5) d.2.1 (ht4.fr f5 (by simp)) (b4.fr f5 (by simp)) rfl hg sl5 (fun _ y hy => ⟨fun hd => by have := ltD _ hd; have := n5 y hy; omega, by have := n5 y hy; omega⟩) i1 htp
    have z5 := f5.size
    refine ⟨w', D', ?_, t6, hchg (Fr.mono (Fr.app F4 f5) (by have z0_ := Fr.size F4; have z1_ := Fr.size f5; intro y_ hy_ hl_; grind [blkOf])) (by omega) f6 c6⟩
    simp only [RV.arg] at e5
    simp only [c0, c1, e5, s6, e6, obs, asP_pointer, asB_bool, asI_int, asS_string, asSl_slice, asM_map, asTup0, asTup1, asTup2, asTup3, asTup4, asTup5, asTup6, asTup7, asTup8, asTup9, asAgg2, asAgg3, asAgg4, asAgg5, asAgg6, asAgg7, asAgg8, asAgg9, asAgg12, getD0, getD1, getD2, getD3, getD4, getD5, getD6, getD7, getD8, getD9, getD10, getD11, getD12, getD13, getD14, getD15, getD16, getD17, getD18, getD19, Bool.not_true, Bool.not_false, Bool.false_eq_true, Bool.true_eq_false, ↓reduceIte, decide_true, decide_false, Option.isNone_some, Option.isNone_none, Option.isSome_some, Option.isSome_none, beq_self_eq_true, bne_self_eq_false, Bool.and_true, Bool.true_and, Bool.and_false, Bool.false_and, not_true_eq_false, not_false_eq_true]
  have c1 : (o.k == 1) = false := by simp [h1]
  by_cases h2 : o.k = 2
  · have c2 : (o.k == 2) = true := by simp [h2]
    have hl : lifeP (tvOf A 0) o next = ((endP (tvOf A 0) 0 (tvOf A 0).pid (tvOf A 0).ep o.com).1, (endP (tvOf A 0) 0 (tvOf A 0).pid (tvOf A 0).ep o.com).2.1) := by unfold lifeP; rw [if_neg h0, if_neg h1, if_pos h2]
    rw [hl]
    obtain ⟨w5, e5, f5⟩ := end18 ht4 0 (tvOf A 0).pid (tvOf A 0).ep o.com hp'
    obtain ⟨i1, i2⟩ := endP_tx (tvOf A 0) (tvOf A 0).pid (tvOf A 0).ep o.com
    generalize endP (tvOf A 0) 0 (tvOf A 0).pid (tvOf A 0).ep o.com = d at *
    obtain ⟨x1, w', D', s6, e6, t6, f6, c6⟩ := life_tail (r := d.1) (q := (none, 0, 0)) d.2.1 (ht4.fr f5 (by simp)) (b4.fr f5 (by simp)) rfl hg (by rw [i2]; exact ⟨rfl, by simp⟩) (by rw [i2]; simp) ⟨i1, by rw [i2]; simp⟩ htp
    have z5 := f5.size
    refine ⟨w', D', ?_, t6, hchg (Fr.mono (Fr.app F4 f5) (by have z0_ := Fr.size F4; have z1_ := Fr.size f5; intro y_ hy_ hl_; grind [blkOf])) (by omega) f6 c6⟩
    simp only [RV.arg] at e5
    simp only [c0, c1, c2, e5, s6, e6, obs, asP_pointer, asB_bool, asI_int, asS_string, asSl_slice, asM_map, asTup0, asTup1, asTup2, asTup3, asTup4, asTup5, asTup6, asTup7, asTup8, asTup9, asAgg2, asAgg3, asAgg4, asAgg5, asAgg6, asAgg7, asAgg8, asAgg9, asAgg12, getD0, getD1, getD2, getD3, getD4, getD5, getD6, getD7, getD8, getD9, getD10, getD11, getD12, getD13, getD14, getD15, getD16, getD17, getD18, getD19, Bool.not_true, Bool.not_false, Bool.false_eq_true, Bool.true_eq_false, ↓reduceIte, decide_true, decide_false, Option.isNone_some, Option.isNone_none, Option.isSome_some, Option.isSome_none, beq_self_eq_true, bne_self_eq_false, Bool.and_true, Bool.true_and, Bool.and_false, Bool.false_and, not_true_eq_false, not_false_eq_true]
  have c2 : (o.k == 2) = false := by simp [h2]
  have hl : lifeP (tvOf A 0) o next = (⟨4, 0, 0, 0, 0, [], false⟩, (tvOf A 0).st == 3) := by unfold lifeP; rw [if_neg h0, if_neg h1, if_neg h2]
  rw [hl]
  have fd := Fr.drew [] w4
  have bt5 := bt4.fr fd (by simp)
  obtain ⟨x1, w', D', s6, e6, t6, f6, c6⟩ := life_tail (r := ⟨4, 0, 0, 0, 0, [], false⟩) (q := (none, 0, 0)) ((tvOf A 0).st == 3) (ht4.fr fd (by simp)) (b4.fr fd (by simp)) rfl hg ⟨rfl, by simp⟩ (by simp) ⟨rfl, by simp⟩ htp
  have lb := bt5.lt
  have l3 := b3.lt
  have bt6 := bt5.fr f6 (by simp; omega)
  have y0 : w4.drew.cell? ⟨w2.heap.size, 0, none⟩ = some (.int .i64 (tvOf A 0).st) := bt5.cell 0
  have y1 : x1.cell? ⟨w2.heap.size, 0, none⟩ = some (.int .i64 (tvOf A 0).st) := bt6.cell 0
  have z5 := fd.size
  refine ⟨w', D', ?_, t6, hchg (Fr.mono (Fr.app F4 fd) (by have z0_ := Fr.size F4; have z1_ := Fr.size fd; intro y_ hy_ hl_; grind [blkOf])) (by omega) f6 c6⟩
  simp only [c0, c1, c2, g24_j87, g24_j81, hw4, y0, s6, y1, e6, ite_self, obs, asP_pointer, asB_bool, asI_int, asS_string, asSl_slice, asM_map, asTup0, asTup1, asTup2, asTup3, asTup4, asTup5, asTup6, asTup7, asTup8, asTup9, asAgg2, asAgg3, asAgg4, asAgg5, asAgg6, asAgg7, asAgg8, asAgg9, asAgg12, getD0, getD1, getD2, getD3, getD4, getD5, getD6, getD7, getD8, getD9, getD10, getD11, getD12, getD13, getD14, getD15, getD16, getD17, getD18, getD19, Bool.not_true, Bool.not_false, Bool.false_eq_true, Bool.true_eq_false, ↓reduceIte, decide_true, decide_false, Option.isNone_some, Option.isNone_none, Option.isSome_some, Option.isSome_none, beq_self_eq_true, bne_self_eq_false, Bool.and_true, Bool.true_and, Bool.and_false, Bool.false_and, not_true_eq_false, not_false_eq_true]
end
end Go.Proofs.Ytlcojbodcbjkaaa
