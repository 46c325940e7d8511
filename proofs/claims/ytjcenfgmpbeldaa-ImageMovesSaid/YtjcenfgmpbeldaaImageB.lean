/-
  ImageB: lemmas on what Go functions of this seat come to (for whatever arguments, as each says). No condition but those that stand in each lemma.
-/
import Derived.Test.YtjcenfgmpbeldaaImageP
namespace Go.Proofs.Ytjcenfgmpbeldaa
open Go Go.Ev
set_option maxRecDepth 100000
set_option linter.unusedVariables false
set_option linter.unusedSimpArgs false

def moveV (ns : List NV) (x : CV) (v : PV) : PV × Int :=
  if ¬ sortedI ns.length x.ls then (v, 1) else if v.tgt ≠ [] then (v, 16) else (settleV ns { v with tgt := x.ls }, 0)
def isrBad (ns : List NV) (v : PV) (n : Int) : Bool := !((decide (n ∈ v.rep) || decide (n ∈ v.tgt)) && (decide (n ∈ v.isr) || aliveB ns n))
def isrV (ns : List NV) (x : CV) (v : PV) : PV × Int :=
  if ¬ sortedI ns.length x.ls then (v, 1) else if v.ld < 0 ∨ x.ep ≠ v.ep ∨ x.nd ≠ v.ld ∨ x.vr ≠ v.vr then (v, 12)
  else if v.ld ∉ x.ls then (v, 5) else if x.ls.any (isrBad ns v) then (v, 5) else (settleV ns { v with isr := x.ls, vr := IntKind.i64.wrap (v.vr + 1) }, 0)

section
variable {w : World} {D : Nat → Prop} {b c : Nat} {nq pq : Sh} {ns : List NV} {es : List PE} {next count : Int}

theorem Raw.same {k : Nat} (h : Raw w D b c nq pq ns es next count) (hk : k < es.length) : Raw w D b c nq pq ns (es.set k es[k]) next count := by
  rw [List.set_getElem_self]; exact h

theorem chg_fr {D D' : Nat → Prop} {w w1 w2 : World} (f : Fr [] w w1) (c : Chg D w1 w2 D') : Chg D w w2 D' := by
  obtain ⟨S, g, hS⟩ := c.fr
  have := f.size
  refine ⟨⟨S, by simpa using f.app g, hS⟩, c.up, fun y hy => ?_⟩
  rcases c.new y hy with hh | hh
  · exact .inl hh
  · exact .inr (by omega)

theorem chg_fr2 {D D' : Nat → Prop} {w w1 w2 : World} {S : List Nat} (f : Fr S w w1) (hS : ∀ y ∈ S, y < w.heap.size → D y) (c : Chg D w1 w2 D') : Chg D w w2 D' := by
  obtain ⟨T, g, hT⟩ := c.fr
  have := f.size
  refine chgP (f.app g) (fun y hy hl => ?_) c.up (fun y hy => ?_)
  · rcases List.mem_append.mp hy with hy | hy
    · exact hS y hy hl
    · exact hT y hy
  · rcases c.new y hy with hh | hh
    · exact .inl hh
    · exact .inr (by omega)

theorem move40 (h : Raw w D b c nq pq ns es next count) {k : Nat} (hk : k < es.length) (x : CV) (q : Sh) (hx : x.pt = (k : Int)) (hu : SlI .i64 w q x.ls) (hqn : q.1 = none → q.2.1 = 0) (hl : x.ls.length ≤ 9223372036854775807) (hns : ns.length ≤ 1000) :
    ∃ D' e' w', callF Try.prog 40 #[.pointer (some ⟨b, 0, none⟩), x.arg q] w = some (.int .i64 (moveV ns x es[k].v).2, w') ∧ e'.v = (moveV ns x es[k].v).1 ∧ Raw w' D' b c nq pq ns (es.set k e') next count ∧ Chg D w w' D' := by
  have fa : Fr [] w (w.alloc (.cells #[.int .i64 x.k, .int .i64 x.nd, .int .i64 x.pt, .int .i64 x.ep, .int .i64 x.vr, .slice q.1 q.2.1 q.2.2] 33)) := Fr.alloc _
  have ba : Blk (w.alloc (.cells #[.int .i64 x.k, .int .i64 x.nd, .int .i64 x.pt, .int .i64 x.ep, .int .i64 x.vr, .slice q.1 q.2.1 q.2.2] 33)) w.heap.size (x.cs q) 33 := Blk.new w (x.cs q) 33
  obtain ⟨w1, hw1⟩ : ∃ w1, w.alloc (.cells #[.int .i64 x.k, .int .i64 x.nd, .int .i64 x.pt, .int .i64 x.ep, .int .i64 x.vr, .slice q.1 q.2.1 q.2.2] 33) = w1 := ⟨_, rfl⟩
  rw [hw1] at fa ba
  have h1 := h.fr fa (by simp)
  have hu1 := hu.fr3 fa (by simp)
  have a5 : w1.cell? ⟨w.heap.size, 5, none⟩ = some (.slice q.1 q.2.1 q.2.2) := ba.cell 5
  have e1 := sorted75 h1 hu1 hl
  by_cases hs : sortedI ns.length x.ls
  · have ks : decide (sortedI ns.length x.ls) = true := decide_eq_true hs
    have fd := Fr.drew [] w1
    have hd := h1.fr fd (by simp)
    have bd := ba.fr fd (by simp)
    have hud := hu1.fr3 fd (by simp)
    have F1 : Fr [] w w1.drew := (Fr.mono (Fr.app fa fd) (by have z0_ := Fr.size fa; have z1_ := Fr.size fd; intro y_ hy_ hl_; grind [blkOf]))
    have p1 : w1.drew.cell? ⟨b, 1, none⟩ = some (.slice pq.1 pq.2.1 pq.2.2) := hd.tbl.cell 1
    have d2 : w1.drew.cell? ⟨w.heap.size, 2, none⟩ = some (.int .i64 x.pt) := bd.cell 2
    have d5 : w1.drew.cell? ⟨w.heap.size, 5, none⟩ = some (.slice q.1 q.2.1 q.2.2) := bd.cell 5
    obtain ⟨g, o, ha, _⟩ := hd.part_addr hk
    have ha' : idxA pq.1 pq.2.1 6 x.pt = some ⟨g, o, none⟩ := by rw [hx]; exact ha
    have hd' := hd.same hk
    have c5 : w1.drew.cell? ⟨g, o + 5, none⟩ = some (.slice es[k].qt.1 es[k].qt.2.1 es[k].qt.2.2) := hd'.get hk ha (j := 5) (by decide)
    have hok := hd'.okAt hk
    have htl := hok.ot.len
    simp only [intsV', List.length_map, Nat.mul_one] at htl
    by_cases ht : es[k].v.tgt = []
    · have k0 : decide ((es[k].qt.2.1 : Int) > 0) = false := by rw [ht] at htl; simp at htl ⊢; omega
      have hsl := sortedI_len hs
      obtain ⟨q1, w2, e2, o2, f2, n2⟩ := clone36 hud.slC hqn (by omega)
      have R2 := hd'.fr f2 (by simp)
      have ok2 := R2.okAt hk
      let D' : Nat → Prop := fun y => D y ∨ y ∈ blkOf q1
      have hDD : ∀ y, D y → D' y := fun y hy => .inl hy
      have lt2 : ∀ y, D' y → y < w2.heap.size := fun y hy => by
        rcases hy with hy | hy
        · exact R2.lt y hy
        · exact o2.lt y hy
      have nq' : ∀ y ∈ blkOf q1, y ∉ blkOf pq := fun y hy hm => by have := n2 y hy; have := hd.lt y (h.rp y hm); omega
      have R2' := R2.grow hDD lt2
      have ok2' := R2'.okAt hk
      obtain ⟨w3, s3, R3, f3⟩ := R2'.put hk ha (j := 5) (by decide) (D' := D') { es[k] with v := { es[k].v with tgt := x.ls }, qt := q1 } (.slice q1.1 q1.2.1 q1.2.2) rfl rfl (fun _ => id) ⟨ok2'.oi, ok2'.or_, o2, ⟨ok2'.reg.1, ok2'.reg.2.1, fun y hy => .inr hy⟩, ⟨ok2'.len.1, ok2'.len.2.1, by show x.ls.length ≤ _; omega⟩⟩ lt2
      obtain ⟨D4, e4, w4, e3, hv, R4, C4⟩ := settle76 R3 hk ha (sortedI_names hs rfl)
      refine ⟨D4, e4, w4, g40_call (u1c0 := x.k) (u1c1 := x.nd) (u1c2 := x.pt) (u1c3 := x.ep) (u1c4 := x.vr) (u1c5 := q) ?_, ?_, R4, ?_⟩
      · have hr : (moveV ns x es[k].v).2 = 0 := by unfold moveV; rw [if_neg (by simp [hs]), if_neg (by simp [ht])]
        rw [hr]
        unfold g40
        simp only [hw1, addr_add, Nat.zero_add, a5, e1, ks, p1, d2, ha', c5, k0, d5, e2, s3, e3, obs, asP_pointer, asB_bool, asI_int, asS_string, asSl_slice, asM_map, asTup0, asTup1, asTup2, asTup3, asTup4, asTup5, asTup6, asTup7, asTup8, asTup9, asAgg2, asAgg3, asAgg4, asAgg5, asAgg6, asAgg7, asAgg8, asAgg9, asAgg12, getD0, getD1, getD2, getD3, getD4, getD5, getD6, getD7, getD8, getD9, getD10, getD11, getD12, getD13, getD14, getD15, getD16, getD17, getD18, getD19, Bool.not_true, Bool.not_false, Bool.false_eq_true, Bool.true_eq_false, ↓reduceIte, decide_true, decide_false, Option.isNone_some, Option.isNone_none, Option.isSome_some, Option.isSome_none, beq_self_eq_true, bne_self_eq_false, Bool.and_true, Bool.true_and, Bool.and_false, Bool.false_and, not_true_eq_false, not_false_eq_true]
      · rw [hv]; unfold moveV; rw [if_neg (by simp [hs]), if_neg (by simp [ht])]
      · have c1 : Chg D w w3 D' := chgP (((F1.app f2).app f3)) (fun y hy _ => by simp at hy; exact h.rp y hy) hDD (fun y hy => by
          rcases hy with hy | hy
          · exact .inl hy
          · have := n2 y hy; have := F1.size; exact .inr (by omega))
        exact c1.trans C4 h.lt
    · have k0 : decide ((es[k].qt.2.1 : Int) > 0) = true := by
        have := List.length_pos_iff.mpr ht
        simp; omega
      refine ⟨D, es[k], w1.drew, g40_call (u1c0 := x.k) (u1c1 := x.nd) (u1c2 := x.pt) (u1c3 := x.ep) (u1c4 := x.vr) (u1c5 := q) ?_, ?_, hd', chg_fr F1 (Chg.refl _ _)⟩
      · have hr : (moveV ns x es[k].v).2 = 16 := by unfold moveV; rw [if_neg (by simp [hs]), if_pos ht]
        rw [hr]
        unfold g40
        simp only [hw1, addr_add, Nat.zero_add, a5, e1, ks, p1, d2, ha', c5, k0, obs, asP_pointer, asB_bool, asI_int, asS_string, asSl_slice, asM_map, asTup0, asTup1, asTup2, asTup3, asTup4, asTup5, asTup6, asTup7, asTup8, asTup9, asAgg2, asAgg3, asAgg4, asAgg5, asAgg6, asAgg7, asAgg8, asAgg9, asAgg12, getD0, getD1, getD2, getD3, getD4, getD5, getD6, getD7, getD8, getD9, getD10, getD11, getD12, getD13, getD14, getD15, getD16, getD17, getD18, getD19, Bool.not_true, Bool.not_false, Bool.false_eq_true, Bool.true_eq_false, ↓reduceIte, decide_true, decide_false, Option.isNone_some, Option.isNone_none, Option.isSome_some, Option.isSome_none, beq_self_eq_true, bne_self_eq_false, Bool.and_true, Bool.true_and, Bool.and_false, Bool.false_and, not_true_eq_false, not_false_eq_true]
      · unfold moveV; rw [if_neg (by simp [hs]), if_pos ht]
  · have ks : decide (sortedI ns.length x.ls) = false := decide_eq_false hs
    refine ⟨D, es[k], w1, g40_call (u1c0 := x.k) (u1c1 := x.nd) (u1c2 := x.pt) (u1c3 := x.ep) (u1c4 := x.vr) (u1c5 := q) ?_, ?_, h1.same hk, chg_fr fa (Chg.refl _ _)⟩
    · have hr : (moveV ns x es[k].v).2 = 1 := by unfold moveV; rw [if_pos hs]
      rw [hr]
      unfold g40
      simp only [hw1, addr_add, Nat.zero_add, a5, e1, ks, obs, asP_pointer, asB_bool, asI_int, asS_string, asSl_slice, asM_map, asTup0, asTup1, asTup2, asTup3, asTup4, asTup5, asTup6, asTup7, asTup8, asTup9, asAgg2, asAgg3, asAgg4, asAgg5, asAgg6, asAgg7, asAgg8, asAgg9, asAgg12, getD0, getD1, getD2, getD3, getD4, getD5, getD6, getD7, getD8, getD9, getD10, getD11, getD12, getD13, getD14, getD15, getD16, getD17, getD18, getD19, Bool.not_true, Bool.not_false, Bool.false_eq_true, Bool.true_eq_false, ↓reduceIte, decide_true, decide_false, Option.isNone_some, Option.isNone_none, Option.isSome_some, Option.isSome_none, beq_self_eq_true, bne_self_eq_false, Bool.and_true, Bool.true_and, Bool.and_false, Bool.false_and, not_true_eq_false, not_false_eq_true]
    · unfold moveV; rw [if_pos hs]

theorem isr39 (h : Raw w D b c nq pq ns es next count) {k : Nat} (hk : k < es.length) (x : CV) (q : Sh) (hx : x.pt = (k : Int)) (hu : SlI .i64 w q x.ls) (hqn : q.1 = none → q.2.1 = 0) (hl : x.ls.length ≤ 9223372036854775807) (hns : ns.length ≤ 1000) (hnt : Names ns es[k].v.tgt) :
    ∃ D' e' w', callF Try.prog 39 #[.pointer (some ⟨b, 0, none⟩), x.arg q] w = some (.int .i64 (isrV ns x es[k].v).2, w') ∧ e'.v = (isrV ns x es[k].v).1 ∧ Raw w' D' b c nq pq ns (es.set k e') next count ∧ Chg D w w' D' := by
  have fa : Fr [] w (w.alloc (.cells #[.int .i64 x.k, .int .i64 x.nd, .int .i64 x.pt, .int .i64 x.ep, .int .i64 x.vr, .slice q.1 q.2.1 q.2.2] 33)) := Fr.alloc _
  have ba : Blk (w.alloc (.cells #[.int .i64 x.k, .int .i64 x.nd, .int .i64 x.pt, .int .i64 x.ep, .int .i64 x.vr, .slice q.1 q.2.1 q.2.2] 33)) w.heap.size (x.cs q) 33 := Blk.new w (x.cs q) 33
  obtain ⟨w0, hw0⟩ : ∃ w0, w.alloc (.cells #[.int .i64 x.k, .int .i64 x.nd, .int .i64 x.pt, .int .i64 x.ep, .int .i64 x.vr, .slice q.1 q.2.1 q.2.2] 33) = w0 := ⟨_, rfl⟩
  rw [hw0] at fa ba
  have fd0 := Fr.drew [] w0
  obtain ⟨w1, hw1⟩ : ∃ w1, w0.drew = w1 := ⟨_, rfl⟩
  rw [hw1] at fd0
  have F1 : Fr [] w w1 := (Fr.mono (Fr.app fa fd0) (by have z0_ := Fr.size fa; have z1_ := Fr.size fd0; intro y_ hy_ hl_; grind [blkOf]))
  have h1 := h.fr F1 (by simp)
  have b1 := ba.fr fd0 (by simp)
  have hu1 := hu.fr3 F1 (by simp)
  have p1 : w1.cell? ⟨b, 1, none⟩ = some (.slice pq.1 pq.2.1 pq.2.2) := h1.tbl.cell 1
  have a2 : w1.cell? ⟨w.heap.size, 2, none⟩ = some (.int .i64 x.pt) := b1.cell 2
  have a5 : w1.cell? ⟨w.heap.size, 5, none⟩ = some (.slice q.1 q.2.1 q.2.2) := b1.cell 5
  obtain ⟨g, o, ha, _⟩ := h1.part_addr hk
  have ha' : idxA pq.1 pq.2.1 6 x.pt = some ⟨g, o, none⟩ := by rw [hx]; exact ha
  have e1 := sorted75 h1 hu1 hl
  obtain ⟨e, he⟩ : ∃ e, es[k] = e := ⟨_, rfl⟩
  by_cases hs : sortedI ns.length x.ls
  case neg =>
    have ks : decide (sortedI ns.length x.ls) = false := decide_eq_false hs
    refine ⟨D, es[k], w1, g39_call (u1c0 := x.k) (u1c1 := x.nd) (u1c2 := x.pt) (u1c3 := x.ep) (u1c4 := x.vr) (u1c5 := q) ?_, ?_, h1.same hk, chg_fr F1 (Chg.refl _ _)⟩
    · have hr : (isrV ns x es[k].v).2 = 1 := by unfold isrV; rw [if_pos hs]
      rw [hr]
      unfold g39
      simp only [hw0, hw1, addr_add, Nat.zero_add, p1, a2, ha', a5, e1, ks, obs, asP_pointer, asB_bool, asI_int, asS_string, asSl_slice, asM_map, asTup0, asTup1, asTup2, asTup3, asTup4, asTup5, asTup6, asTup7, asTup8, asTup9, asAgg2, asAgg3, asAgg4, asAgg5, asAgg6, asAgg7, asAgg8, asAgg9, asAgg12, getD0, getD1, getD2, getD3, getD4, getD5, getD6, getD7, getD8, getD9, getD10, getD11, getD12, getD13, getD14, getD15, getD16, getD17, getD18, getD19, Bool.not_true, Bool.not_false, Bool.false_eq_true, Bool.true_eq_false, ↓reduceIte, decide_true, decide_false, Option.isNone_some, Option.isNone_none, Option.isSome_some, Option.isSome_none, beq_self_eq_true, bne_self_eq_false, Bool.and_true, Bool.true_and, Bool.and_false, Bool.false_and, not_true_eq_false, not_false_eq_true]
    · unfold isrV; rw [if_pos hs]
  have ks : decide (sortedI ns.length x.ls) = true := decide_eq_true hs
  have fd1 := Fr.drew [] w1
  obtain ⟨w2, hw2⟩ : ∃ w2, w1.drew = w2 := ⟨_, rfl⟩
  rw [hw2] at fd1
  have F2 : Fr [] w w2 := (Fr.mono (Fr.app F1 fd1) (by have z0_ := Fr.size F1; have z1_ := Fr.size fd1; intro y_ hy_ hl_; grind [blkOf]))
  have h2 := (h1.fr fd1 (by simp)).same hk
  rw [he] at h2 hnt
  have b2 := b1.fr fd1 (by simp)
  have q0 : w2.cell? ⟨g, o, none⟩ = some (.int .i64 e.v.ld) := h2.get hk ha (j := 0) (by decide)
  have q1 : w2.cell? ⟨g, o + 1, none⟩ = some (.int .i64 e.v.ep) := h2.get hk ha (j := 1) (by decide)
  have q2 : w2.cell? ⟨g, o + 2, none⟩ = some (.int .i64 e.v.vr) := h2.get hk ha (j := 2) (by decide)
  have b2_3 : w2.cell? ⟨w.heap.size, 3, none⟩ = some (.int .i64 x.ep) := b2.cell 3
  have b2_1 : w2.cell? ⟨w.heap.size, 1, none⟩ = some (.int .i64 x.nd) := b2.cell 1
  have b2_4 : w2.cell? ⟨w.heap.size, 4, none⟩ = some (.int .i64 x.vr) := b2.cell 4
  rw [he]
  have fail12 : (e.v.ld < 0 ∨ x.ep ≠ e.v.ep ∨ x.nd ≠ e.v.ld ∨ x.vr ≠ e.v.vr) → ∃ D' e' w', callF Try.prog 39 #[.pointer (some ⟨b, 0, none⟩), x.arg q] w = some (.int .i64 (isrV ns x e.v).2, w') ∧ e'.v = (isrV ns x e.v).1 ∧ Raw w' D' b c nq pq ns (es.set k e') next count ∧ Chg D w w' D' := by
    intro hc
    refine ⟨D, e, w2, g39_call (u1c0 := x.k) (u1c1 := x.nd) (u1c2 := x.pt) (u1c3 := x.ep) (u1c4 := x.vr) (u1c5 := q) ?_, ?_, h2, chg_fr F2 (Chg.refl _ _)⟩
    · have hr : (isrV ns x e.v).2 = 12 := by unfold isrV; rw [if_neg (by simp [hs]), if_pos hc]
      rw [hr]
      unfold g39
      simp only [hw0, hw1, addr_add, Nat.zero_add, p1, a2, ha', a5, e1, ks, hw2, q0, obs, asP_pointer, asB_bool, asI_int, asS_string, asSl_slice, asM_map, asTup0, asTup1, asTup2, asTup3, asTup4, asTup5, asTup6, asTup7, asTup8, asTup9, asAgg2, asAgg3, asAgg4, asAgg5, asAgg6, asAgg7, asAgg8, asAgg9, asAgg12, getD0, getD1, getD2, getD3, getD4, getD5, getD6, getD7, getD8, getD9, getD10, getD11, getD12, getD13, getD14, getD15, getD16, getD17, getD18, getD19, Bool.not_true, Bool.not_false, Bool.false_eq_true, Bool.true_eq_false, ↓reduceIte, decide_true, decide_false, Option.isNone_some, Option.isNone_none, Option.isSome_some, Option.isSome_none, beq_self_eq_true, bne_self_eq_false, Bool.and_true, Bool.true_and, Bool.and_false, Bool.false_and, not_true_eq_false, not_false_eq_true]
      by_cases l0 : e.v.ld < 0
      · have kl : decide (e.v.ld < 0) = true := by simp [l0]
        simp only [kl, obs, asP_pointer, asB_bool, asI_int, asS_string, asSl_slice, asM_map, asTup0, asTup1, asTup2, asTup3, asTup4, asTup5, asTup6, asTup7, asTup8, asTup9, asAgg2, asAgg3, asAgg4, asAgg5, asAgg6, asAgg7, asAgg8, asAgg9, asAgg12, getD0, getD1, getD2, getD3, getD4, getD5, getD6, getD7, getD8, getD9, getD10, getD11, getD12, getD13, getD14, getD15, getD16, getD17, getD18, getD19, Bool.not_true, Bool.not_false, Bool.false_eq_true, Bool.true_eq_false, ↓reduceIte, decide_true, decide_false, Option.isNone_some, Option.isNone_none, Option.isSome_some, Option.isSome_none, beq_self_eq_true, bne_self_eq_false, Bool.and_true, Bool.true_and, Bool.and_false, Bool.false_and, not_true_eq_false, not_false_eq_true]
      have kl : decide (e.v.ld < 0) = false := by simp; omega
      simp only [kl, b2_3, q1, obs, asP_pointer, asB_bool, asI_int, asS_string, asSl_slice, asM_map, asTup0, asTup1, asTup2, asTup3, asTup4, asTup5, asTup6, asTup7, asTup8, asTup9, asAgg2, asAgg3, asAgg4, asAgg5, asAgg6, asAgg7, asAgg8, asAgg9, asAgg12, getD0, getD1, getD2, getD3, getD4, getD5, getD6, getD7, getD8, getD9, getD10, getD11, getD12, getD13, getD14, getD15, getD16, getD17, getD18, getD19, Bool.not_true, Bool.not_false, Bool.false_eq_true, Bool.true_eq_false, ↓reduceIte, decide_true, decide_false, Option.isNone_some, Option.isNone_none, Option.isSome_some, Option.isSome_none, beq_self_eq_true, bne_self_eq_false, Bool.and_true, Bool.true_and, Bool.and_false, Bool.false_and, not_true_eq_false, not_false_eq_true]
      by_cases l1 : x.ep = e.v.ep
      · have kl1 : (x.ep != e.v.ep) = false := by simp [l1]
        simp only [kl1, b2_1, q0, obs, asP_pointer, asB_bool, asI_int, asS_string, asSl_slice, asM_map, asTup0, asTup1, asTup2, asTup3, asTup4, asTup5, asTup6, asTup7, asTup8, asTup9, asAgg2, asAgg3, asAgg4, asAgg5, asAgg6, asAgg7, asAgg8, asAgg9, asAgg12, getD0, getD1, getD2, getD3, getD4, getD5, getD6, getD7, getD8, getD9, getD10, getD11, getD12, getD13, getD14, getD15, getD16, getD17, getD18, getD19, Bool.not_true, Bool.not_false, Bool.false_eq_true, Bool.true_eq_false, ↓reduceIte, decide_true, decide_false, Option.isNone_some, Option.isNone_none, Option.isSome_some, Option.isSome_none, beq_self_eq_true, bne_self_eq_false, Bool.and_true, Bool.true_and, Bool.and_false, Bool.false_and, not_true_eq_false, not_false_eq_true]
        by_cases l2 : x.nd = e.v.ld
        · have kl2 : (x.nd != e.v.ld) = false := by simp [l2]
          have kl3 : (x.vr != e.v.vr) = true := by
            have : x.vr ≠ e.v.vr := by rcases hc with hc | hc | hc | hc <;> first | exact hc | exact absurd ‹_› hc | exact absurd hc l0
            simp [this]
          simp only [kl2, b2_4, q2, kl3, obs, asP_pointer, asB_bool, asI_int, asS_string, asSl_slice, asM_map, asTup0, asTup1, asTup2, asTup3, asTup4, asTup5, asTup6, asTup7, asTup8, asTup9, asAgg2, asAgg3, asAgg4, asAgg5, asAgg6, asAgg7, asAgg8, asAgg9, asAgg12, getD0, getD1, getD2, getD3, getD4, getD5, getD6, getD7, getD8, getD9, getD10, getD11, getD12, getD13, getD14, getD15, getD16, getD17, getD18, getD19, Bool.not_true, Bool.not_false, Bool.false_eq_true, Bool.true_eq_false, ↓reduceIte, decide_true, decide_false, Option.isNone_some, Option.isNone_none, Option.isSome_some, Option.isSome_none, beq_self_eq_true, bne_self_eq_false, Bool.and_true, Bool.true_and, Bool.and_false, Bool.false_and, not_true_eq_false, not_false_eq_true]
        · have kl2 : (x.nd != e.v.ld) = true := by simp [l2]
          simp only [kl2, obs, asP_pointer, asB_bool, asI_int, asS_string, asSl_slice, asM_map, asTup0, asTup1, asTup2, asTup3, asTup4, asTup5, asTup6, asTup7, asTup8, asTup9, asAgg2, asAgg3, asAgg4, asAgg5, asAgg6, asAgg7, asAgg8, asAgg9, asAgg12, getD0, getD1, getD2, getD3, getD4, getD5, getD6, getD7, getD8, getD9, getD10, getD11, getD12, getD13, getD14, getD15, getD16, getD17, getD18, getD19, Bool.not_true, Bool.not_false, Bool.false_eq_true, Bool.true_eq_false, ↓reduceIte, decide_true, decide_false, Option.isNone_some, Option.isNone_none, Option.isSome_some, Option.isSome_none, beq_self_eq_true, bne_self_eq_false, Bool.and_true, Bool.true_and, Bool.and_false, Bool.false_and, not_true_eq_false, not_false_eq_true]
      · have kl1 : (x.ep != e.v.ep) = true := by simp [l1]
        simp only [kl1, obs, asP_pointer, asB_bool, asI_int, asS_string, asSl_slice, asM_map, asTup0, asTup1, asTup2, asTup3, asTup4, asTup5, asTup6, asTup7, asTup8, asTup9, asAgg2, asAgg3, asAgg4, asAgg5, asAgg6, asAgg7, asAgg8, asAgg9, asAgg12, getD0, getD1, getD2, getD3, getD4, getD5, getD6, getD7, getD8, getD9, getD10, getD11, getD12, getD13, getD14, getD15, getD16, getD17, getD18, getD19, Bool.not_true, Bool.not_false, Bool.false_eq_true, Bool.true_eq_false, ↓reduceIte, decide_true, decide_false, Option.isNone_some, Option.isNone_none, Option.isSome_some, Option.isSome_none, beq_self_eq_true, bne_self_eq_false, Bool.and_true, Bool.true_and, Bool.and_false, Bool.false_and, not_true_eq_false, not_false_eq_true]
    · unfold isrV; rw [if_neg (by simp [hs]), if_pos hc]
  by_cases hc : e.v.ld < 0 ∨ x.ep ≠ e.v.ep ∨ x.nd ≠ e.v.ld ∨ x.vr ≠ e.v.vr
  · exact fail12 hc
  have kl : decide (e.v.ld < 0) = false := by simp; omega
  have kl1 : (x.ep != e.v.ep) = false := by simp; omega
  have kl2 : (x.nd != e.v.ld) = false := by simp; omega
  have kl3 : (x.vr != e.v.vr) = false := by simp; omega
  have fd2 := Fr.drew [] w2
  obtain ⟨w3, hw3⟩ : ∃ w3, w2.drew = w3 := ⟨_, rfl⟩
  rw [hw3] at fd2
  have F3 : Fr [] w w3 := (Fr.mono (Fr.app F2 fd2) (by have z0_ := Fr.size F2; have z1_ := Fr.size fd2; intro y_ hy_ hl_; grind [blkOf]))
  have h3 := h2.fr fd2 (by simp)
  have b3 := b2.fr fd2 (by simp)
  have hu3 := hu.fr3 F3 (by simp)
  have r5 : w3.cell? ⟨w.heap.size, 5, none⟩ = some (.slice q.1 q.2.1 q.2.2) := b3.cell 5
  have r0 : w3.cell? ⟨g, o, none⟩ = some (.int .i64 e.v.ld) := h3.get hk ha (j := 0) (by decide)
  have hsl := sortedI_len hs
  have hsn := sortedI_names (ns := ns) hs rfl
  have e2 := contains32 hu3.slC (by omega) e.v.ld
  by_cases hm : e.v.ld ∈ x.ls
  case neg =>
    have km : decide (e.v.ld ∈ x.ls) = false := by simp [hm]
    refine ⟨D, e, w3, g39_call (u1c0 := x.k) (u1c1 := x.nd) (u1c2 := x.pt) (u1c3 := x.ep) (u1c4 := x.vr) (u1c5 := q) ?_, ?_, h3, chg_fr F3 (Chg.refl _ _)⟩
    · have hr : (isrV ns x e.v).2 = 5 := by unfold isrV; rw [if_neg (by simp [hs]), if_neg hc, if_pos hm]
      rw [hr]
      unfold g39
      simp only [hw0, hw1, addr_add, Nat.zero_add, p1, a2, ha', a5, e1, ks, hw2, q0, kl, b2_3, q1, kl1, b2_1, kl2, b2_4, q2, kl3, hw3, r5, r0, e2, km, obs, asP_pointer, asB_bool, asI_int, asS_string, asSl_slice, asM_map, asTup0, asTup1, asTup2, asTup3, asTup4, asTup5, asTup6, asTup7, asTup8, asTup9, asAgg2, asAgg3, asAgg4, asAgg5, asAgg6, asAgg7, asAgg8, asAgg9, asAgg12, getD0, getD1, getD2, getD3, getD4, getD5, getD6, getD7, getD8, getD9, getD10, getD11, getD12, getD13, getD14, getD15, getD16, getD17, getD18, getD19, Bool.not_true, Bool.not_false, Bool.false_eq_true, Bool.true_eq_false, ↓reduceIte, decide_true, decide_false, Option.isNone_some, Option.isNone_none, Option.isSome_some, Option.isSome_none, beq_self_eq_true, bne_self_eq_false, Bool.and_true, Bool.true_and, Bool.and_false, Bool.false_and, not_true_eq_false, not_false_eq_true]
    · unfold isrV; rw [if_neg (by simp [hs]), if_neg hc, if_pos hm]
  have km : decide (e.v.ld ∈ x.ls) = true := by simp [hm]
  have ok3 := h3.okAt hk
  have hlen := ok3.len
  have r3 : w3.cell? ⟨g, o + 3, none⟩ = some (.slice e.qi.1 e.qi.2.1 e.qi.2.2) := h3.get hk ha (j := 3) (by decide)
  have r4 : w3.cell? ⟨g, o + 4, none⟩ = some (.slice e.qr.1 e.qr.2.1 e.qr.2.2) := h3.get hk ha (j := 4) (by decide)
  have r5' : w3.cell? ⟨g, o + 5, none⟩ = some (.slice e.qt.1 e.qt.2.1 e.qt.2.2) := h3.get hk ha (j := 5) (by decide)
  have n0 : w3.cell? ⟨b, 0, none⟩ = some (.slice nq.1 nq.2.1 nq.2.2) := h3.tbl.cell 0
  have hq := hu3.1
  obtain ⟨ex, t, w4, g1, rfl, hQ⟩ := loopS_rule (b := g39_l34_b q ⟨g, o, none⟩ (some ⟨b, 0, none⟩) w) (I := fun j s y => s = ((0 : Int), (j : Int)) ∧ y = w3 ∧ (x.ls.take j).any (isrBad ns e.v) = false)
    (Q := fun ex s y => y = w3 ∧ (ex = .ret ∧ s.1 = 5 ∧ x.ls.any (isrBad ns e.v) = true ∨ ex = .exit 1 ∧ x.ls.any (isrBad ns e.v) = false)) (n := x.ls.length)
    (fun j s y hj ⟨hs', hy, hin⟩ => by
      subst hs'
      subst hy
      obtain ⟨a, i1, ci⟩ := hu3.get hj
      have c1 := contains32 ok3.or_.slC (by omega) x.ls[j]
      have c2 := contains32 ok3.ot.slC (by omega) x.ls[j]
      have c3 := contains32 ok3.oi.slC (by omega) x.ls[j]
      have k1 : decide ((j : Int) < (q.2.1 : Int)) = true := by simp; omega
      have hw := wrap_succ (n := j) (by omega)
      have hnj := hsn x.ls[j] (List.getElem_mem hj)
      have hnl : x.ls[j].toNat < ns.length := by omega
      obtain ⟨an, i2, al0, _, _⟩ := h3.node_at hnl
      have hnn : ((x.ls[j].toNat : Nat) : Int) = x.ls[j] := by omega
      rw [hnn] at i2
      have hal : aliveB ns x.ls[j] = ns[x.ls[j].toNat].al := by unfold aliveB; rw [List.getElem?_eq_getElem hnl]
      rw [← hal] at al0
      have good : isrBad ns e.v x.ls[j] = false → g39_l34_b q ⟨g, o, none⟩ (some ⟨b, 0, none⟩) w ((0 : Int), (j : Int)) y = some (.normal, ((0 : Int), ((j + 1 : Nat) : Int)), y) := by
        intro hg
        unfold isrBad at hg
        unfold g39_l34_b
        cases m1 : decide (x.ls[j] ∈ e.v.rep) <;> cases m2 : decide (x.ls[j] ∈ e.v.tgt) <;> cases m3 : decide (x.ls[j] ∈ e.v.isr) <;> cases m4 : aliveB ns x.ls[j] <;> rw [m1, m2, m3, m4] at hg <;> first | (exact absurd hg (by decide)) | (rw [m1] at c1; rw [m2] at c2; rw [m3] at c3; rw [m4] at al0; simp only [k1, i1, ci, addr_add, r4, c1, r3, c3, n0, i2, al0, r5', c2, hw, obs, asP_pointer, asB_bool, asI_int, asS_string, asSl_slice, asM_map, asTup0, asTup1, asTup2, asTup3, asTup4, asTup5, asTup6, asTup7, asTup8, asTup9, asAgg2, asAgg3, asAgg4, asAgg5, asAgg6, asAgg7, asAgg8, asAgg9, asAgg12, getD0, getD1, getD2, getD3, getD4, getD5, getD6, getD7, getD8, getD9, getD10, getD11, getD12, getD13, getD14, getD15, getD16, getD17, getD18, getD19, Bool.not_true, Bool.not_false, Bool.false_eq_true, Bool.true_eq_false, ↓reduceIte, decide_true, decide_false, Option.isNone_some, Option.isNone_none, Option.isSome_some, Option.isSome_none, beq_self_eq_true, bne_self_eq_false, Bool.and_true, Bool.true_and, Bool.and_false, Bool.false_and, not_true_eq_false, not_false_eq_true])
      have bad : isrBad ns e.v x.ls[j] = true → g39_l34_b q ⟨g, o, none⟩ (some ⟨b, 0, none⟩) w ((0 : Int), (j : Int)) y = some (.ret, ((5 : Int), (j : Int)), y) := by
        intro hg
        unfold isrBad at hg
        unfold g39_l34_b
        cases m1 : decide (x.ls[j] ∈ e.v.rep) <;> cases m2 : decide (x.ls[j] ∈ e.v.tgt) <;> cases m3 : decide (x.ls[j] ∈ e.v.isr) <;> cases m4 : aliveB ns x.ls[j] <;> rw [m1, m2, m3, m4] at hg <;> first | (exact absurd hg (by decide)) | (rw [m1] at c1; rw [m2] at c2; rw [m3] at c3; rw [m4] at al0; simp only [k1, i1, ci, addr_add, r4, c1, r3, c3, n0, i2, al0, r5', c2, hw, obs, asP_pointer, asB_bool, asI_int, asS_string, asSl_slice, asM_map, asTup0, asTup1, asTup2, asTup3, asTup4, asTup5, asTup6, asTup7, asTup8, asTup9, asAgg2, asAgg3, asAgg4, asAgg5, asAgg6, asAgg7, asAgg8, asAgg9, asAgg12, getD0, getD1, getD2, getD3, getD4, getD5, getD6, getD7, getD8, getD9, getD10, getD11, getD12, getD13, getD14, getD15, getD16, getD17, getD18, getD19, Bool.not_true, Bool.not_false, Bool.false_eq_true, Bool.true_eq_false, ↓reduceIte, decide_true, decide_false, Option.isNone_some, Option.isNone_none, Option.isSome_some, Option.isSome_none, beq_self_eq_true, bne_self_eq_false, Bool.and_true, Bool.true_and, Bool.and_false, Bool.false_and, not_true_eq_false, not_false_eq_true])
      cases hb : isrBad ns e.v x.ls[j] with
      | true => exact ⟨.ret, _, y, bad hb, .inr ⟨by simp, rfl, .inl ⟨rfl, rfl, List.any_eq_true.mpr ⟨_, List.getElem_mem hj, hb⟩⟩⟩⟩
      | false => exact ⟨.normal, _, y, good hb, .inl ⟨rfl, rfl, rfl, by rw [List.take_succ_eq_append_getElem hj, List.any_append, hin]; simp [hb]⟩⟩)
    (fun s y ⟨hs', hy, hin⟩ => by
      subst hs'
      subst hy
      rw [List.take_length] at hin
      refine ⟨.exit 1, ((0 : Int), (x.ls.length : Int)), y, ?_, by simp, rfl, .inr ⟨rfl, hin⟩⟩
      have k1 : decide ((x.ls.length : Int) < (q.2.1 : Int)) = false := by simp; omega
      unfold g39_l34_b
      simp only [k1, Bool.false_eq_true, if_false]) (k := 0) (s := ((0 : Int), (0 : Int))) (w := w3) (Nat.zero_le _) ⟨rfl, rfl, by simp⟩
  have beg : ∀ r, g39_l34 (some ⟨b, 0, none⟩) w ⟨g, o, none⟩ q (0, 0) w4 = some r → callF Try.prog 39 #[.pointer (some ⟨b, 0, none⟩), x.arg q] w = some r := by
    intro r hr
    refine g39_call (u1c0 := x.k) (u1c1 := x.nd) (u1c2 := x.pt) (u1c3 := x.ep) (u1c4 := x.vr) (u1c5 := q) ?_
    unfold g39
    simp only [hw0, hw1, addr_add, Nat.zero_add, p1, a2, ha', a5, e1, ks, hw2, q0, kl, b2_3, q1, kl1, b2_1, kl2, b2_4, q2, kl3, hw3, r5, r0, e2, km, obs, asP_pointer, asB_bool, asI_int, asS_string, asSl_slice, asM_map, asTup0, asTup1, asTup2, asTup3, asTup4, asTup5, asTup6, asTup7, asTup8, asTup9, asAgg2, asAgg3, asAgg4, asAgg5, asAgg6, asAgg7, asAgg8, asAgg9, asAgg12, getD0, getD1, getD2, getD3, getD4, getD5, getD6, getD7, getD8, getD9, getD10, getD11, getD12, getD13, getD14, getD15, getD16, getD17, getD18, getD19, Bool.not_true, Bool.not_false, Bool.false_eq_true, Bool.true_eq_false, ↓reduceIte, decide_true, decide_false, Option.isNone_some, Option.isNone_none, Option.isSome_some, Option.isSome_none, beq_self_eq_true, bne_self_eq_false, Bool.and_true, Bool.true_and, Bool.and_false, Bool.false_and, not_true_eq_false, not_false_eq_true]
    exact hr
  rcases hQ with ⟨rfl, h5, hbad⟩ | ⟨rfl, hgood⟩
  · refine ⟨D, e, w4, beg _ ?_, ?_, h3, chg_fr F3 (Chg.refl _ _)⟩
    · have hr : (isrV ns x e.v).2 = 5 := by unfold isrV; rw [if_neg (by simp [hs]), if_neg hc, if_neg (by simp [hm]), if_pos hbad]
      rw [hr, g39_l34_ret_of g1, g39_l34_ret, h5]
    · unfold isrV; rw [if_neg (by simp [hs]), if_neg hc, if_neg (by simp [hm]), if_pos hbad]
  have hgood' : ¬ (x.ls.any (isrBad ns e.v) = true) := by rw [hgood]; simp
  obtain ⟨q', w5, e5, o5, f5, n5⟩ := clone36 hu3.slC hqn (by omega)
  have R5 := h3.fr f5 (by simp)
  let D' : Nat → Prop := fun y => D y ∨ y ∈ blkOf q'
  have hDD : ∀ y, D y → D' y := fun y hy => .inl hy
  have lt5 : ∀ y, D' y → y < w5.heap.size := fun y hy => by
    rcases hy with hy | hy
    · exact R5.lt y hy
    · exact o5.lt y hy
  have R5' := R5.grow hDD lt5
  have ok5 := R5'.okAt hk
  have nq' : ∀ y ∈ blkOf q', y ∉ blkOf pq := fun y hy hmm => by have := n5 y hy; have := h3.lt y (h.rp y hmm); omega
  obtain ⟨w6, s6, R6, f6⟩ := R5'.put hk ha (j := 3) (by decide) (D' := D') { e with v := { e.v with isr := x.ls }, qi := q' } (.slice q'.1 q'.2.1 q'.2.2) rfl rfl (fun _ => id) ⟨o5, ok5.or_, ok5.ot, ⟨fun y hy => .inr hy, ok5.reg.2.1, ok5.reg.2.2⟩, ⟨by show x.ls.length ≤ _; omega, ok5.len.2.1, ok5.len.2.2⟩⟩ lt5
  have ok6 := R6.okAt hk
  have v2 : w6.cell? ⟨g, o + 2, none⟩ = some (.int .i64 e.v.vr) := R6.get hk ha (j := 2) (by decide)
  obtain ⟨w7, s7, R7, f7⟩ := R6.put hk ha (j := 2) (by decide) (D' := D') { e with v := { e.v with isr := x.ls, vr := IntKind.i64.wrap (e.v.vr + 1) }, qi := q' } (.int .i64 (IntKind.i64.wrap (e.v.vr + 1))) rfl rfl (fun _ => id) ⟨ok6.oi, ok6.or_, ok6.ot, ok6.reg, ok6.len⟩ R6.lt
  obtain ⟨D8, e8, w8, e9, hv, R8, C8⟩ := settle76 R7 hk ha (by exact hnt)
  refine ⟨D8, e8, w8, beg _ ?_, ?_, R8, ?_⟩
  · have hr : (isrV ns x e.v).2 = 0 := by unfold isrV; rw [if_neg (by simp [hs]), if_neg hc, if_neg (by simp [hm]), if_neg hgood']
    rw [hr, g39_l34_x1_of g1]
    unfold g39_l34_x1
    simp only [addr_add, Nat.zero_add, r5, e5, s6, v2, s7, e9, obs, asP_pointer, asB_bool, asI_int, asS_string, asSl_slice, asM_map, asTup0, asTup1, asTup2, asTup3, asTup4, asTup5, asTup6, asTup7, asTup8, asTup9, asAgg2, asAgg3, asAgg4, asAgg5, asAgg6, asAgg7, asAgg8, asAgg9, asAgg12, getD0, getD1, getD2, getD3, getD4, getD5, getD6, getD7, getD8, getD9, getD10, getD11, getD12, getD13, getD14, getD15, getD16, getD17, getD18, getD19, Bool.not_true, Bool.not_false, Bool.false_eq_true, Bool.true_eq_false, ↓reduceIte, decide_true, decide_false, Option.isNone_some, Option.isNone_none, Option.isSome_some, Option.isSome_none, beq_self_eq_true, bne_self_eq_false, Bool.and_true, Bool.true_and, Bool.and_false, Bool.false_and, not_true_eq_false, not_false_eq_true]
  · rw [hv]; unfold isrV; rw [if_neg (by simp [hs]), if_neg hc, if_neg (by simp [hm]), if_neg hgood']
  · have c1 : Chg D w w7 D' := chgP ((((F3.app f5).app f6).app f7)) (fun y hy _ => by simp at hy; exact h.rp y hy) hDD (fun y hy => by
      rcases hy with hy | hy
      · exact .inl hy
      · have := n5 y hy; have := F3.size; exact .inr (by omega))
    exact c1.trans C8 h.lt
end
end Go.Proofs.Ytjcenfgmpbeldaa
