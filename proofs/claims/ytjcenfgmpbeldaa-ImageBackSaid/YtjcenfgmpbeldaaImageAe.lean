/-
  ImageAe: lemmas on what Go functions of this seat come to (for whatever arguments, as each says). No condition but those that stand in each lemma.
-/
import Derived.Test.YtjcenfgmpbeldaaRs
import Derived.Test.YtjcenfgmpbeldaaImageP
import Derived.Test.YtjcenfgmpbeldaaImageT
import Derived.Test.YtjcenfgmpbeldaaImageSo
import Derived.Test.YtjcenfgmpbeldaaLb10
import Derived.Test.YtjcenfgmpbeldaaImageV1
namespace Go.Proofs.Ytjcenfgmpbeldaa
open Go Go.Ev
set_option maxRecDepth 100000
set_option linter.unusedVariables false
set_option linter.unusedSimpArgs false

def moveV (ns : List NV) (x : CV) (v : PV) : PV × Int :=
  if ¬ sortedI ns.length x.ls then (v, 1) else if v.tgt ≠ [] then (v, 16) else (settleV ns { v with tgt := x.ls }, 0)
def isrBad (ns : List NV) (v : PV) (n : Int) : Bool := !((decide (n ∈ v.rep) || decide (n ∈ v.tgt)) && (decide (n ∈ v.isr) || aliveB ns n))
def isrV (ns : List NV) (x : CV) (v : PV) : PV × Int :=
  if ¬ sortedI ns.length x.ls then (v, 1) else if v.ld < 0 ∨ x.ep ≠ v.ep ∨ x.nd ≠ v.ld ∨ x.vr ≠ v.vr then (v, 12)
  else if v.ld ∉ x.ls then (v, 5) else if x.ls.any (isrBad ns v) then (v, 5) else (settleV ns { v with isr := x.ls, vr := IntKind.i64.wrap (v.vr + 1) }, 0)

section
variable {w : World} {D : Nat → Prop} {b c : Nat} {nq pq : Sh} {ns : List NV} {es : List PE} {next count : Int}

theorem Raw.same {k : Nat} (h : Raw w D b c nq pq ns es next count) (hk : k < es.length) : Raw w D b c nq pq ns (es.set k es[k]) next count := by
  rw [List.set_getElem_self]; exact h

theorem chg_fr {D D' : Nat → Prop} {w w1 w2 : World} (f : Fr [] w w1) (c : Chg D w1 w2 D') : Chg D w w2 D' := by
  obtain ⟨S, g, hS⟩ := c.fr
  have := f.size
  refine ⟨⟨S, by simpa using f.app g, hS⟩, c.up, fun y hy => ?_⟩
  rcases c.new y hy with hh | hh
  · exact .inl hh
  · exact .inr (by omega)

theorem chg_fr2 {D D' : Nat → Prop} {w w1 w2 : World} {S : List Nat} (f : Fr S w w1) (hS : ∀ y ∈ S, y < w.heap.size → D y) (c : Chg D w1 w2 D') : Chg D w w2 D' := by
  obtain ⟨T, g, hT⟩ := c.fr
  have := f.size
  refine chgP (f.app g) (fun y hy hl => ?_) c.up (fun y hy => ?_)
  · rcases List.mem_append.mp hy with hy | hy
    · exact hS y hy hl
    · exact hT y hy
  · rcases c.new y hy with hh | hh
    · exact .inl hh
    · exact .inr (by omega)

theorem move40 (h : Raw w D b c nq pq ns es next count) {k : Nat} (hk : k < es.length) (x : CV) (q : Sh) (hx : x.pt = (k : Int)) (hu : SlI .i64 w q x.ls) (hqn : q.1 = none → q.2.1 = 0) (hl : x.ls.length ≤ 9223372036854775807) (hns : ns.length ≤ 1000) :
    ∃ D' e' w', callF Try.prog 40 #[.pointer (some ⟨b, 0, none⟩), x.arg q] w = some (.int .i64 (moveV ns x es[k].v).2, w') ∧ e'.v = (moveV ns x es[k].v).1 ∧ Raw w' D' b c nq pq ns (es.set k e') next count ∧ Chg D w w' D' := by
  have fa : Fr [] w (w.alloc (.cells #[.int .i64 x.k, .int .i64 x.nd, .int .i64 x.pt, .int .i64 x.ep, .int .i64 x.vr, .slice q.1 q.2.1 q.2.2] 33)) := Fr.alloc _
  have ba : Blk (w.alloc (.cells #[.int .i64 x.k, .int .i64 x.nd, .int .i64 x.pt, .int .i64 x.ep, .int .i64 x.vr, .slice q.1 q.2.1 q.2.2] 33)) w.heap.size (x.cs q) 33 := Blk.new w (x.cs q) 33
  obtain ⟨w1, hw1⟩ : ∃ w1, w.alloc (.cells #[.int .i64 x.k, .int .i64 x.nd, .int .i64 x.pt, .int .i64 x.ep, .int .i64 x.vr, .slice q.1 q.2.1 q.2.2] 33) = w1 := ⟨_, rfl⟩
  rw [hw1] at fa ba
  have h1 := h.fr fa (by simp)
  have hu1 := hu.fr3 fa (by simp)
  have a5 : w1.cell? ⟨w.heap.size, 5, none⟩ = some (.slice q.1 q.2.1 q.2.2) := ba.cell 5
  have e1 := sorted75 h1 hu1 hl
  by_cases hs : sortedI ns.length x.ls
  · have ks : decide (sortedI ns.length x.ls) = true := decide_eq_true hs
    have fd := Fr.drew [] w1
    have hd := h1.fr fd (by simp)
    have bd := ba.fr fd (by simp)
    have hud := hu1.fr3 fd (by simp)
    have F1 : Fr [] w w1.drew := (Fr.mono (Fr.app fa fd) (by have z0_ := Fr.size fa; have z1_ := Fr.size fd; intro y_ hy_ hl_; grind [blkOf]))
    have p1 : w1.drew.cell? ⟨b, 1, none⟩ = some (.slice pq.1 pq.2.1 pq.2.2) := hd.tbl.cell 1
    have d2 : w1.drew.cell? ⟨w.heap.size, 2, none⟩ = some (.int .i64 x.pt) := bd.cell 2
    have d5 : w1.drew.cell? ⟨w.heap.size, 5, none⟩ = some (.slice q.1 q.2.1 q.2.2) := bd.cell 5
    obtain ⟨g, o, ha, _⟩ := hd.part_addr hk
    have ha' : idxA pq.1 pq.2.1 6 x.pt = some ⟨g, o, none⟩ := by rw [hx]; exact ha
    have hd' := hd.same hk
    have c5 : w1.drew.cell? ⟨g, o + 5, none⟩ = some (.slice es[k].qt.1 es[k].qt.2.1 es[k].qt.2.2) := hd'.get hk ha (j := 5) (by decide)
    have hok := hd'.okAt hk
    have htl := hok.ot.len
    simp only [intsV', List.length_map, Nat.mul_one] at htl
    by_cases ht : es[k].v.tgt = []
    · have k0 : decide ((es[k].qt.2.1 : Int) > 0) = false := by rw [ht] at htl; simp at htl ⊢; omega
      have hsl := sortedI_len hs
      obtain ⟨q1, w2, e2, o2, f2, n2⟩ := clone36 hud.slC hqn (by omega)
      have R2 := hd'.fr f2 (by simp)
      have ok2 := R2.okAt hk
      let D' : Nat → Prop := fun y => D y ∨ y ∈ blkOf q1
      have hDD : ∀ y, D y → D' y := fun y hy => .inl hy
      have lt2 : ∀ y, D' y → y < w2.heap.size := fun y hy => by
        rcases hy with hy | hy
        · exact R2.lt y hy
        · exact o2.lt y hy
      have nq' : ∀ y ∈ blkOf q1, y ∉ blkOf pq := fun y hy hm => by have := n2 y hy; have := hd.lt y (h.rp y hm); omega
      have R2' := R2.grow hDD lt2
      have ok2' := R2'.okAt hk
      obtain ⟨w3, s3, R3, f3⟩ := R2'.put hk ha (j := 5) (by decide) (D' := D') { es[k] with v := { es[k].v with tgt := x.ls }, qt := q1 } (.slice q1.1 q1.2.1 q1.2.2) rfl rfl (fun _ => id) ⟨ok2'.oi, ok2'.or_, o2, ⟨ok2'.reg.1, ok2'.reg.2.1, fun y hy => .inr hy⟩, ⟨ok2'.len.1, ok2'.len.2.1, by show x.ls.length ≤ _; omega⟩⟩ lt2
      obtain ⟨D4, e4, w4, e3, hv, R4, C4⟩ := settle76 R3 hk ha (sortedI_names hs rfl)
      refine ⟨D4, e4, w4, g40_call (u1c0 := x.k) (u1c1 := x.nd) (u1c2 := x.pt) (u1c3 := x.ep) (u1c4 := x.vr) (u1c5 := q) ?_, ?_, R4, ?_⟩
      · have hr : (moveV ns x es[k].v).2 = 0 := by unfold moveV; rw [if_neg (by simp [hs]), if_neg (by simp [ht])]
        rw [hr]
        unfold g40
        simp only [hw1, addr_add, Nat.zero_add, a5, e1, ks, p1, d2, ha', c5, k0, d5, e2, s3, e3, obs, asP_pointer, asB_bool, asI_int, asS_string, asSl_slice, asM_map, asTup0, asTup1, asTup2, asTup3, asTup4, asTup5, asTup6, asTup7, asTup8, asTup9, asAgg2, asAgg3, asAgg4, asAgg5, asAgg6, asAgg7, asAgg8, asAgg9, asAgg12, getD0, getD1, getD2, getD3, getD4, getD5, getD6, getD7, getD8, getD9, getD10, getD11, getD12, getD13, getD14, getD15, getD16, getD17, getD18, getD19, Bool.not_true, Bool.not_false, Bool.false_eq_true, Bool.true_eq_false, ↓reduceIte, decide_true, decide_false, Option.isNone_some, Option.isNone_none, Option.isSome_some, Option.isSome_none, beq_self_eq_true, bne_self_eq_false, Bool.and_true, Bool.true_and, Bool.and_false, Bool.false_and, not_true_eq_false, not_false_eq_true]
      · rw [hv]; unfold moveV; rw [if_neg (by simp [hs]), if_neg (by simp [ht])]
      · have c1 : Chg D w w3 D' := chgP (((F1.app f2).app f3)) (fun y hy _ => by simp at hy; exact h.rp y hy) hDD (fun y hy => by
          rcases hy with hy | hy
          · exact .inl hy
          · have := n2 y hy; have := F1.size; exact .inr (by omega))
        exact c1.trans C4 h.lt
    · have k0 : decide ((es[k].qt.2.1 : Int) > 0) = true := by
        have := List.length_pos_iff.mpr ht
        simp; omega
      refine ⟨D, es[k], w1.drew, g40_call (u1c0 := x.k) (u1c1 := x.nd) (u1c2 := x.pt) (u1c3 := x.ep) (u1c4 := x.vr) (u1c5 := q) ?_, ?_, hd', chg_fr F1 (Chg.refl _ _)⟩
      · have hr : (moveV ns x es[k].v).2 = 16 := by unfold moveV; rw [if_neg (by simp [hs]), if_pos ht]
        rw [hr]
        unfold g40
        simp only [hw1, addr_add, Nat.zero_add, a5, e1, ks, p1, d2, ha', c5, k0, obs, asP_pointer, asB_bool, asI_int, asS_string, asSl_slice, asM_map, asTup0, asTup1, asTup2, asTup3, asTup4, asTup5, asTup6, asTup7, asTup8, asTup9, asAgg2, asAgg3, asAgg4, asAgg5, asAgg6, asAgg7, asAgg8, asAgg9, asAgg12, getD0, getD1, getD2, getD3, getD4, getD5, getD6, getD7, getD8, getD9, getD10, getD11, getD12, getD13, getD14, getD15, getD16, getD17, getD18, getD19, Bool.not_true, Bool.not_false, Bool.false_eq_true, Bool.true_eq_false, ↓reduceIte, decide_true, decide_false, Option.isNone_some, Option.isNone_none, Option.isSome_some, Option.isSome_none, beq_self_eq_true, bne_self_eq_false, Bool.and_true, Bool.true_and, Bool.and_false, Bool.false_and, not_true_eq_false, not_false_eq_true]
      · unfold moveV; rw [if_neg (by simp [hs]), if_pos ht]
  · have ks : decide (sortedI ns.length x.ls) = false := decide_eq_false hs
    refine ⟨D, es[k], w1, g40_call (u1c0 := x.k) (u1c1 := x.nd) (u1c2 := x.pt) (u1c3 := x.ep) (u1c4 := x.vr) (u1c5 := q) ?_, ?_, h1.same hk, chg_fr fa (Chg.refl _ _)⟩
    · have hr : (moveV ns x es[k].v).2 = 1 := by unfold moveV; rw [if_pos hs]
      rw [hr]
      unfold g40
      simp only [hw1, addr_add, Nat.zero_add, a5, e1, ks, obs, asP_pointer, asB_bool, asI_int, asS_string, asSl_slice, asM_map, asTup0, asTup1, asTup2, asTup3, asTup4, asTup5, asTup6, asTup7, asTup8, asTup9, asAgg2, asAgg3, asAgg4, asAgg5, asAgg6, asAgg7, asAgg8, asAgg9, asAgg12, getD0, getD1, getD2, getD3, getD4, getD5, getD6, getD7, getD8, getD9, getD10, getD11, getD12, getD13, getD14, getD15, getD16, getD17, getD18, getD19, Bool.not_true, Bool.not_false, Bool.false_eq_true, Bool.true_eq_false, ↓reduceIte, decide_true, decide_false, Option.isNone_some, Option.isNone_none, Option.isSome_some, Option.isSome_none, beq_self_eq_true, bne_self_eq_false, Bool.and_true, Bool.true_and, Bool.and_false, Bool.false_and, not_true_eq_false, not_false_eq_true]
    · unfold moveV; rw [if_pos hs]

theorem isr39 (h : Raw w D b c nq pq ns es next count) {k : Nat} (hk : k < es.length) (x : CV) (q : Sh) (hx : x.pt = (k : Int)) (hu : SlI .i64 w q x.ls) (hqn : q.1 = none → q.2.1 = 0) (hl : x.ls.length ≤ 9223372036854775807) (hns : ns.length ≤ 1000) (hnt : Names ns es[k].v.tgt) :
    ∃ D' e' w', callF Try.prog 39 #[.pointer (some ⟨b, 0, none⟩), x.arg q] w = some (.int .i64 (isrV ns x es[k].v).2, w') ∧ e'.v = (isrV ns x es[k].v).1 ∧ Raw w' D' b c nq pq ns (es.set k e') next count ∧ Chg D w w' D' := by
  have fa : Fr [] w (w.alloc (.cells #[.int .i64 x.k, .int .i64 x.nd, .int .i64 x.pt, .int .i64 x.ep, .int .i64 x.vr, .slice q.1 q.2.1 q.2.2] 33)) := Fr.alloc _
  have ba : Blk (w.alloc (.cells #[.int .i64 x.k, .int .i64 x.nd, .int .i64 x.pt, .int .i64 x.ep, .int .i64 x.vr, .slice q.1 q.2.1 q.2.2] 33)) w.heap.size (x.cs q) 33 := Blk.new w (x.cs q) 33
  obtain ⟨w0, hw0⟩ : ∃ w0, w.alloc (.cells #[.int .i64 x.k, .int .i64 x.nd, .int .i64 x.pt, .int .i64 x.ep, .int .i64 x.vr, .slice q.1 q.2.1 q.2.2] 33) = w0 := ⟨_, rfl⟩
  rw [hw0] at fa ba
  have fd0 := Fr.drew [] w0
  obtain ⟨w1, hw1⟩ : ∃ w1, w0.drew = w1 := ⟨_, rfl⟩
  rw [hw1] at fd0
  have F1 : Fr [] w w1 := (Fr.mono (Fr.app fa fd0) (by have z0_ := Fr.size fa; have z1_ := Fr.size fd0; intro y_ hy_ hl_; grind [blkOf]))
  have h1 := h.fr F1 (by simp)
  have b1 := ba.fr fd0 (by simp)
  have hu1 := hu.fr3 F1 (by simp)
  have p1 : w1.cell? ⟨b, 1, none⟩ = some (.slice pq.1 pq.2.1 pq.2.2) := h1.tbl.cell 1
  have a2 : w1.cell? ⟨w.heap.size, 2, none⟩ = some (.int .i64 x.pt) := b1.cell 2
  have a5 : w1.cell? ⟨w.heap.size, 5, none⟩ = some (.slice q.1 q.2.1 q.2.2) := b1.cell 5
  obtain ⟨g, o, ha, _⟩ := h1.part_addr hk
  have ha' : idxA pq.1 pq.2.1 6 x.pt = some ⟨g, o, none⟩ := by rw [hx]; exact ha
  have e1 := sorted75 h1 hu1 hl
  obtain ⟨e, he⟩ : ∃ e, es[k] = e := ⟨_, rfl⟩
  by_cases hs : sortedI ns.length x.ls
  case neg =>
    have ks : decide (sortedI ns.length x.ls) = false := decide_eq_false hs
    refine ⟨D, es[k], w1, g39_call (u1c0 := x.k) (u1c1 := x.nd) (u1c2 := x.pt) (u1c3 := x.ep) (u1c4 := x.vr) (u1c5 := q) ?_, ?_, h1.same hk, chg_fr F1 (Chg.refl _ _)⟩
    · have hr : (isrV ns x es[k].v).2 = 1 := by unfold isrV; rw [if_pos hs]
      rw [hr]
      unfold g39
      simp only [hw0, hw1, addr_add, Nat.zero_add, p1, a2, ha', a5, e1, ks, obs, asP_pointer, asB_bool, asI_int, asS_string, asSl_slice, asM_map, asTup0, asTup1, asTup2, asTup3, asTup4, asTup5, asTup6, asTup7, asTup8, asTup9, asAgg2, asAgg3, asAgg4, asAgg5, asAgg6, asAgg7, asAgg8, asAgg9, asAgg12, getD0, getD1, getD2, getD3, getD4, getD5, getD6, getD7, getD8, getD9, getD10, getD11, getD12, getD13, getD14, getD15, getD16, getD17, getD18, getD19, Bool.not_true, Bool.not_false, Bool.false_eq_true, Bool.true_eq_false, ↓reduceIte, decide_true, decide_false, Option.isNone_some, Option.isNone_none, Option.isSome_some, Option.isSome_none, beq_self_eq_true, bne_self_eq_false, Bool.and_true, Bool.true_and, Bool.and_false, Bool.false_and, not_true_eq_false, not_false_eq_true]
    · unfold isrV; rw [if_pos hs]
  have ks : decide (sortedI ns.length x.ls) = true := decide_eq_true hs
  have fd1 := Fr.drew [] w1
  obtain ⟨w2, hw2⟩ : ∃ w2, w1.drew = w2 := ⟨_, rfl⟩
  rw [hw2] at fd1
  have F2 : Fr [] w w2 := (Fr.mono (Fr.app F1 fd1) (by have z0_ := Fr.size F1; have z1_ := Fr.size fd1; intro y_ hy_ hl_; grind [blkOf]))
  have h2 := (h1.fr fd1 (by simp)).same hk
  rw [he] at h2 hnt
  have b2 := b1.fr fd1 (by simp)
  have q0 : w2.cell? ⟨g, o, none⟩ = some (.int .i64 e.v.ld) := h2.get hk ha (j := 0) (by decide)
  have q1 : w2.cell? ⟨g, o + 1, none⟩ = some (.int .i64 e.v.ep) := h2.get hk ha (j := 1) (by decide)
  have q2 : w2.cell? ⟨g, o + 2, none⟩ = some (.int .i64 e.v.vr) := h2.get hk ha (j := 2) (by decide)
  have b2_3 : w2.cell? ⟨w.heap.size, 3, none⟩ = some (.int .i64 x.ep) := b2.cell 3
  have b2_1 : w2.cell? ⟨w.heap.size, 1, none⟩ = some (.int .i64 x.nd) := b2.cell 1
  have b2_4 : w2.cell? ⟨w.heap.size, 4, none⟩ = some (.int .i64 x.vr) := b2.cell 4
  rw [he]
  have fail12 : (e.v.ld < 0 ∨ x.ep ≠ e.v.ep ∨ x.nd ≠ e.v.ld ∨ x.vr ≠ e.v.vr) → ∃ D' e' w', callF Try.prog 39 #[.pointer (some ⟨b, 0, none⟩), x.arg q] w = some (.int .i64 (isrV ns x e.v).2, w') ∧ e'.v = (isrV ns x e.v).1 ∧ Raw w' D' b c nq pq ns (es.set k e') next count ∧ Chg D w w' D' := by
    intro hc
    refine ⟨D, e, w2, g39_call (u1c0 := x.k) (u1c1 := x.nd) (u1c2 := x.pt) (u1c3 := x.ep) (u1c4 := x.vr) (u1c5 := q) ?_, ?_, h2, chg_fr F2 (Chg.refl _ _)⟩
    · have hr : (isrV ns x e.v).2 = 12 := by unfold isrV; rw [if_neg (by simp [hs]), if_pos hc]
      rw [hr]
      unfold g39
      simp only [hw0, hw1, addr_add, Nat.zero_add, p1, a2, ha', a5, e1, ks, hw2, q0, obs, asP_pointer, asB_bool, asI_int, asS_string, asSl_slice, asM_map, asTup0, asTup1, asTup2, asTup3, asTup4, asTup5, asTup6, asTup7, asTup8, asTup9, asAgg2, asAgg3, asAgg4, asAgg5, asAgg6, asAgg7, asAgg8, asAgg9, asAgg12, getD0, getD1, getD2, getD3, getD4, getD5, getD6, getD7, getD8, getD9, getD10, getD11, getD12, getD13, getD14, getD15, getD16, getD17, getD18, getD19, Bool.not_true, Bool.not_false, Bool.false_eq_true, Bool.true_eq_false, ↓reduceIte, decide_true, decide_false, Option.isNone_some, Option.isNone_none, Option.isSome_some, Option.isSome_none, beq_self_eq_true, bne_self_eq_false, Bool.and_true, Bool.true_and, Bool.and_false, Bool.false_and, not_true_eq_false, not_false_eq_true]
      by_cases l0 : e.v.ld < 0
      · have kl : decide (e.v.ld < 0) = true := by simp [l0]
        simp only [kl, obs, asP_pointer, asB_bool, asI_int, asS_string, asSl_slice, asM_map, asTup0, asTup1, asTup2, asTup3, asTup4, asTup5, asTup6, asTup7, asTup8, asTup9, asAgg2, asAgg3, asAgg4, asAgg5, asAgg6, asAgg7, asAgg8, asAgg9, asAgg12, getD0, getD1, getD2, getD3, getD4, getD5, getD6, getD7, getD8, getD9, getD10, getD11, getD12, getD13, getD14, getD15, getD16, getD17, getD18, getD19, Bool.not_true, Bool.not_false, Bool.false_eq_true, Bool.true_eq_false, ↓reduceIte, decide_true, decide_false, Option.isNone_some, Option.isNone_none, Option.isSome_some, Option.isSome_none, beq_self_eq_true, bne_self_eq_false, Bool.and_true, Bool.true_and, Bool.and_false, Bool.false_and, not_true_eq_false, not_false_eq_true]
      have kl : decide (e.v.ld < 0) = false := by simp; omega
      simp only [kl, b2_3, q1, obs, asP_pointer, asB_bool, asI_int, asS_string, asSl_slice, asM_map, asTup0, asTup1, asTup2, asTup3, asTup4, asTup5, asTup6, asTup7, asTup8, asTup9, asAgg2, asAgg3, asAgg4, asAgg5, asAgg6, asAgg7, asAgg8, asAgg9, asAgg12, getD0, getD1, getD2, getD3, getD4, getD5, getD6, getD7, getD8, getD9, getD10, getD11, getD12, getD13, getD14, getD15, getD16, getD17, getD18, getD19, Bool.not_true, Bool.not_false, Bool.false_eq_true, Bool.true_eq_false, ↓reduceIte, decide_true, decide_false, Option.isNone_some, Option.isNone_none, Option.isSome_some, Option.isSome_none, beq_self_eq_true, bne_self_eq_false, Bool.and_true, Bool.true_and, Bool.and_false, Bool.false_and, not_true_eq_false, not_false_eq_true]
      by_cases l1 : x.ep = e.v.ep
      · have kl1 : (x.ep != e.v.ep) = false := by simp [l1]
        simp only [kl1, b2_1, q0, obs, asP_pointer, asB_bool, asI_int, asS_string, asSl_slice, asM_map, asTup0, asTup1, asTup2, asTup3, asTup4, asTup5, asTup6, asTup7, asTup8, asTup9, asAgg2, asAgg3, asAgg4, asAgg5, asAgg6, asAgg7, asAgg8, asAgg9, asAgg12, getD0, getD1, getD2, getD3, getD4, getD5, getD6, getD7, getD8, getD9, getD10, getD11, getD12, getD13, getD14, getD15, getD16, getD17, getD18, getD19, Bool.not_true, Bool.not_false, Bool.false_eq_true, Bool.true_eq_false, ↓reduceIte, decide_true, decide_false, Option.isNone_some, Option.isNone_none, Option.isSome_some, Option.isSome_none, beq_self_eq_true, bne_self_eq_false, Bool.and_true, Bool.true_and, Bool.and_false, Bool.false_and, not_true_eq_false, not_false_eq_true]
        by_cases l2 : x.nd = e.v.ld
        · have kl2 : (x.nd != e.v.ld) = false := by simp [l2]
          have kl3 : (x.vr != e.v.vr) = true := by
            have : x.vr ≠ e.v.vr := by rcases hc with hc | hc | hc | hc <;> first | exact hc | exact absurd ‹_› hc | exact absurd hc l0
            simp [this]
          simp only [kl2, b2_4, q2, kl3, obs, asP_pointer, asB_bool, asI_int, asS_string, asSl_slice, asM_map, asTup0, asTup1, asTup2, asTup3, asTup4, asTup5, asTup6, asTup7, asTup8, asTup9, asAgg2, asAgg3, asAgg4, asAgg5, asAgg6, asAgg7, asAgg8, asAgg9, asAgg12, getD0, getD1, getD2, getD3, getD4, getD5, getD6, getD7, getD8, getD9, getD10, getD11, getD12, getD13, getD14, getD15, getD16, getD17, getD18, getD19, Bool.not_true, Bool.not_false, Bool.false_eq_true, Bool.true_eq_false, ↓reduceIte, decide_true, decide_false, Option.isNone_some, Option.isNone_none, Option.isSome_some, Option.isSome_none, beq_self_eq_true, bne_self_eq_false, Bool.and_true, Bool.true_and, Bool.and_false, Bool.false_and, not_true_eq_false, not_false_eq_true]
        · have kl2 : (x.nd != e.v.ld) = true := by simp [l2]
          simp only [kl2, obs, asP_pointer, asB_bool, asI_int, asS_string, asSl_slice, asM_map, asTup0, asTup1, asTup2, asTup3, asTup4, asTup5, asTup6, asTup7, asTup8, asTup9, asAgg2, asAgg3, asAgg4, asAgg5, asAgg6, asAgg7, asAgg8, asAgg9, asAgg12, getD0, getD1, getD2, getD3, getD4, getD5, getD6, getD7, getD8, getD9, getD10, getD11, getD12, getD13, getD14, getD15, getD16, getD17, getD18, getD19, Bool.not_true, Bool.not_false, Bool.false_eq_true, Bool.true_eq_false, ↓reduceIte, decide_true, decide_false, Option.isNone_some, Option.isNone_none, Option.isSome_some, Option.isSome_none, beq_self_eq_true, bne_self_eq_false, Bool.and_true, Bool.true_and, Bool.and_false, Bool.false_and, not_true_eq_false, not_false_eq_true]
      · have kl1 : (x.ep != e.v.ep) = true := by simp [l1]
        simp only [kl1, obs, asP_pointer, asB_bool, asI_int, asS_string, asSl_slice, asM_map, asTup0, asTup1, asTup2, asTup3, asTup4, asTup5, asTup6, asTup7, asTup8, asTup9, asAgg2, asAgg3, asAgg4, asAgg5, asAgg6, asAgg7, asAgg8, asAgg9, asAgg12, getD0, getD1, getD2, getD3, getD4, getD5, getD6, getD7, getD8, getD9, getD10, getD11, getD12, getD13, getD14, getD15, getD16, getD17, getD18, getD19, Bool.not_true, Bool.not_false, Bool.false_eq_true, Bool.true_eq_false, ↓reduceIte, decide_true, decide_false, Option.isNone_some, Option.isNone_none, Option.isSome_some, Option.isSome_none, beq_self_eq_true, bne_self_eq_false, Bool.and_true, Bool.true_and, Bool.and_false, Bool.false_and, not_true_eq_false, not_false_eq_true]
    · unfold isrV; rw [if_neg (by simp [hs]), if_pos hc]
  by_cases hc : e.v.ld < 0 ∨ x.ep ≠ e.v.ep ∨ x.nd ≠ e.v.ld ∨ x.vr ≠ e.v.vr
  · exact fail12 hc
  have kl : decide (e.v.ld < 0) = false := by simp; omega
  have kl1 : (x.ep != e.v.ep) = false := by simp; omega
  have kl2 : (x.nd != e.v.ld) = false := by simp; omega
  have kl3 : (x.vr != e.v.vr) = false := by simp; omega
  have fd2 := Fr.drew [] w2
  obtain ⟨w3, hw3⟩ : ∃ w3, w2.drew = w3 := ⟨_, rfl⟩
  rw [hw3] at fd2
  have F3 : Fr [] w w3 := (Fr.mono (Fr.app F2 fd2) (by have z0_ := Fr.size F2; have z1_ := Fr.size fd2; intro y_ hy_ hl_; grind [blkOf]))
  have h3 := h2.fr fd2 (by simp)
  have b3 := b2.fr fd2 (by simp)
  have hu3 := hu.fr3 F3 (by simp)
  have r5 : w3.cell? ⟨w.heap.size, 5, none⟩ = some (.slice q.1 q.2.1 q.2.2) := b3.cell 5
  have r0 : w3.cell? ⟨g, o, none⟩ = some (.int .i64 e.v.ld) := h3.get hk ha (j := 0) (by decide)
  have hsl := sortedI_len hs
  have hsn := sortedI_names (ns := ns) hs rfl
  have e2 := contains32 hu3.slC (by omega) e.v.ld
  by_cases hm : e.v.ld ∈ x.ls
  case neg =>
    have km : decide (e.v.ld ∈ x.ls) = false := by simp [hm]
    refine ⟨D, e, w3, g39_call (u1c0 := x.k) (u1c1 := x.nd) (u1c2 := x.pt) (u1c3 := x.ep) (u1c4 := x.vr) (u1c5 := q) ?_, ?_, h3, chg_fr F3 (Chg.refl _ _)⟩
    · have hr : (isrV ns x e.v).2 = 5 := by unfold isrV; rw [if_neg (by simp [hs]), if_neg hc, if_pos hm]
      rw [hr]
      unfold g39
      simp only [hw0, hw1, addr_add, Nat.zero_add, p1, a2, ha', a5, e1, ks, hw2, q0, kl, b2_3, q1, kl1, b2_1, kl2, b2_4, q2, kl3, hw3, r5, r0, e2, km, obs, asP_pointer, asB_bool, asI_int, asS_string, asSl_slice, asM_map, asTup0, asTup1, asTup2, asTup3, asTup4, asTup5, asTup6, asTup7, asTup8, asTup9, asAgg2, asAgg3, asAgg4, asAgg5, asAgg6, asAgg7, asAgg8, asAgg9, asAgg12, getD0, getD1, getD2, getD3, getD4, getD5, getD6, getD7, getD8, getD9, getD10, getD11, getD12, getD13, getD14, getD15, getD16, getD17, getD18, getD19, Bool.not_true, Bool.not_false, Bool.false_eq_true, Bool.true_eq_false, ↓reduceIte, decide_true, decide_false, Option.isNone_some, Option.isNone_none, Option.isSome_some, Option.isSome_none, beq_self_eq_true, bne_self_eq_false, Bool.and_true, Bool.true_and, Bool.and_false, Bool.false_and, not_true_eq_false, not_false_eq_true]
    · unfold isrV; rw [if_neg (by simp [hs]), if_neg hc, if_pos hm]
  have km : decide (e.v.ld ∈ x.ls) = true := by simp [hm]
  have ok3 := h3.okAt hk
  have hlen := ok3.len
  have r3 : w3.cell? ⟨g, o + 3, none⟩ = some (.slice e.qi.1 e.qi.2.1 e.qi.2.2) := h3.get hk ha (j := 3) (by decide)
  have r4 : w3.cell? ⟨g, o + 4, none⟩ = some (.slice e.qr.1 e.qr.2.1 e.qr.2.2) := h3.get hk ha (j := 4) (by decide)
  have r5' : w3.cell? ⟨g, o + 5, none⟩ = some (.slice e.qt.1 e.qt.2.1 e.qt.2.2) := h3.get hk ha (j := 5) (by decide)
  have n0 : w3.cell? ⟨b, 0, none⟩ = some (.slice nq.1 nq.2.1 nq.2.2) := h3.tbl.cell 0
  have hq := hu3.1
  obtain ⟨ex, t, w4, g1, rfl, hQ⟩ := loopS_rule (b := g39_l34_b q ⟨g, o, none⟩ (some ⟨b, 0, none⟩) w) (I := fun j s y => s = ((0 : Int), (j : Int)) ∧ y = w3 ∧ (x.ls.take j).any (isrBad ns e.v) = false)
    (Q := fun ex s y => y = w3 ∧ (ex = .ret ∧ s.1 = 5 ∧ x.ls.any (isrBad ns e.v) = true ∨ ex = .exit 1 ∧ x.ls.any (isrBad ns e.v) = false)) (n := x.ls.length)
    (fun j s y hj ⟨hs', hy, hin⟩ => by
      subst hs'
      subst hy
      obtain ⟨a, i1, ci⟩ := hu3.get hj
      have c1 := contains32 ok3.or_.slC (by omega) x.ls[j]
      have c2 := contains32 ok3.ot.slC (by omega) x.ls[j]
      have c3 := contains32 ok3.oi.slC (by omega) x.ls[j]
      have k1 : decide ((j : Int) < (q.2.1 : Int)) = true := by simp; omega
      have hw := wrap_succ (n := j) (by omega)
      have hnj := hsn x.ls[j] (List.getElem_mem hj)
      have hnl : x.ls[j].toNat < ns.length := by omega
      obtain ⟨an, i2, al0, _, _⟩ := h3.node_at hnl
      have hnn : ((x.ls[j].toNat : Nat) : Int) = x.ls[j] := by omega
      rw [hnn] at i2
      have hal : aliveB ns x.ls[j] = ns[x.ls[j].toNat].al := by unfold aliveB; rw [List.getElem?_eq_getElem hnl]
      rw [← hal] at al0
      have good : isrBad ns e.v x.ls[j] = false → g39_l34_b q ⟨g, o, none⟩ (some ⟨b, 0, none⟩) w ((0 : Int), (j : Int)) y = some (.normal, ((0 : Int), ((j + 1 : Nat) : Int)), y) := by
        intro hg
        unfold isrBad at hg
        unfold g39_l34_b
        cases m1 : decide (x.ls[j] ∈ e.v.rep) <;> cases m2 : decide (x.ls[j] ∈ e.v.tgt) <;> cases m3 : decide (x.ls[j] ∈ e.v.isr) <;> cases m4 : aliveB ns x.ls[j] <;> rw [m1, m2, m3, m4] at hg <;> first | (exact absurd hg (by decide)) | (rw [m1] at c1; rw [m2] at c2; rw [m3] at c3; rw [m4] at al0; simp only [k1, i1, ci, addr_add, r4, c1, r3, c3, n0, i2, al0, r5', c2, hw, obs, asP_pointer, asB_bool, asI_int, asS_string, asSl_slice, asM_map, asTup0, asTup1, asTup2, asTup3, asTup4, asTup5, asTup6, asTup7, asTup8, asTup9, asAgg2, asAgg3, asAgg4, asAgg5, asAgg6, asAgg7, asAgg8, asAgg9, asAgg12, getD0, getD1, getD2, getD3, getD4, getD5, getD6, getD7, getD8, getD9, getD10, getD11, getD12, getD13, getD14, getD15, getD16, getD17, getD18, getD19, Bool.not_true, Bool.not_false, Bool.false_eq_true, Bool.true_eq_false, ↓reduceIte, decide_true, decide_false, Option.isNone_some, Option.isNone_none, Option.isSome_some, Option.isSome_none, beq_self_eq_true, bne_self_eq_false, Bool.and_true, Bool.true_and, Bool.and_false, Bool.false_and, not_true_eq_false, not_false_eq_true])
      have bad : isrBad ns e.v x.ls[j] = true → g39_l34_b q ⟨g, o, none⟩ (some ⟨b, 0, none⟩) w ((0 : Int), (j : Int)) y = some (.ret, ((5 : Int), (j : Int)), y) := by
        intro hg
        unfold isrBad at hg
        unfold g39_l34_b
        cases m1 : decide (x.ls[j] ∈ e.v.rep) <;> cases m2 : decide (x.ls[j] ∈ e.v.tgt) <;> cases m3 : decide (x.ls[j] ∈ e.v.isr) <;> cases m4 : aliveB ns x.ls[j] <;> rw [m1, m2, m3, m4] at hg <;> first | (exact absurd hg (by decide)) | (rw [m1] at c1; rw [m2] at c2; rw [m3] at c3; rw [m4] at al0; simp only [k1, i1, ci, addr_add, r4, c1, r3, c3, n0, i2, al0, r5', c2, hw, obs, asP_pointer, asB_bool, asI_int, asS_string, asSl_slice, asM_map, asTup0, asTup1, asTup2, asTup3, asTup4, asTup5, asTup6, asTup7, asTup8, asTup9, asAgg2, asAgg3, asAgg4, asAgg5, asAgg6, asAgg7, asAgg8, asAgg9, asAgg12, getD0, getD1, getD2, getD3, getD4, getD5, getD6, getD7, getD8, getD9, getD10, getD11, getD12, getD13, getD14, getD15, getD16, getD17, getD18, getD19, Bool.not_true, Bool.not_false, Bool.false_eq_true, Bool.true_eq_false, ↓reduceIte, decide_true, decide_false, Option.isNone_some, Option.isNone_none, Option.isSome_some, Option.isSome_none, beq_self_eq_true, bne_self_eq_false, Bool.and_true, Bool.true_and, Bool.and_false, Bool.false_and, not_true_eq_false, not_false_eq_true])
      cases hb : isrBad ns e.v x.ls[j] with
      | true => exact ⟨.ret, _, y, bad hb, .inr ⟨by simp, rfl, .inl ⟨rfl, rfl, List.any_eq_true.mpr ⟨_, List.getElem_mem hj, hb⟩⟩⟩⟩
      | false => exact ⟨.normal, _, y, good hb, .inl ⟨rfl, rfl, rfl, by rw [List.take_succ_eq_append_getElem hj, List.any_append, hin]; simp [hb]⟩⟩)
    (fun s y ⟨hs', hy, hin⟩ => by
      subst hs'
      subst hy
      rw [List.take_length] at hin
      refine ⟨.exit 1, ((0 : Int), (x.ls.length : Int)), y, ?_, by simp, rfl, .inr ⟨rfl, hin⟩⟩
      have k1 : decide ((x.ls.length : Int) < (q.2.1 : Int)) = false := by simp; omega
      unfold g39_l34_b
      simp only [k1, Bool.false_eq_true, if_false]) (k := 0) (s := ((0 : Int), (0 : Int))) (w := w3) (Nat.zero_le _) ⟨rfl, rfl, by simp⟩
  have beg : ∀ r, g39_l34 (some ⟨b, 0, none⟩) w ⟨g, o, none⟩ q (0, 0) w4 = some r → callF Try.prog 39 #[.pointer (some ⟨b, 0, none⟩), x.arg q] w = some r := by
    intro r hr
    refine g39_call (u1c0 := x.k) (u1c1 := x.nd) (u1c2 := x.pt) (u1c3 := x.ep) (u1c4 := x.vr) (u1c5 := q) ?_
    unfold g39
    simp only [hw0, hw1, addr_add, Nat.zero_add, p1, a2, ha', a5, e1, ks, hw2, q0, kl, b2_3, q1, kl1, b2_1, kl2, b2_4, q2, kl3, hw3, r5, r0, e2, km, obs, asP_pointer, asB_bool, asI_int, asS_string, asSl_slice, asM_map, asTup0, asTup1, asTup2, asTup3, asTup4, asTup5, asTup6, asTup7, asTup8, asTup9, asAgg2, asAgg3, asAgg4, asAgg5, asAgg6, asAgg7, asAgg8, asAgg9, asAgg12, getD0, getD1, getD2, getD3, getD4, getD5, getD6, getD7, getD8, getD9, getD10, getD11, getD12, getD13, getD14, getD15, getD16, getD17, getD18, getD19, Bool.not_true, Bool.not_false, Bool.false_eq_true, Bool.true_eq_false, ↓reduceIte, decide_true, decide_false, Option.isNone_some, Option.isNone_none, Option.isSome_some, Option.isSome_none, beq_self_eq_true, bne_self_eq_false, Bool.and_true, Bool.true_and, Bool.and_false, Bool.false_and, not_true_eq_false, not_false_eq_true]
    exact hr
  rcases hQ with ⟨rfl, h5, hbad⟩ | ⟨rfl, hgood⟩
  · refine ⟨D, e, w4, beg _ ?_, ?_, h3, chg_fr F3 (Chg.refl _ _)⟩
    · have hr : (isrV ns x e.v).2 = 5 := by unfold isrV; rw [if_neg (by simp [hs]), if_neg hc, if_neg (by simp [hm]), if_pos hbad]
      rw [hr, g39_l34_ret_of g1, g39_l34_ret, h5]
    · unfold isrV; rw [if_neg (by simp [hs]), if_neg hc, if_neg (by simp [hm]), if_pos hbad]
  have hgood' : ¬ (x.ls.any (isrBad ns e.v) = true) := by rw [hgood]; simp
  obtain ⟨q', w5, e5, o5, f5, n5⟩ := clone36 hu3.slC hqn (by omega)
  have R5 := h3.fr f5 (by simp)
  let D' : Nat → Prop := fun y => D y ∨ y ∈ blkOf q'
  have hDD : ∀ y, D y → D' y := fun y hy => .inl hy
  have lt5 : ∀ y, D' y → y < w5.heap.size := fun y hy => by
    rcases hy with hy | hy
    · exact R5.lt y hy
    · exact o5.lt y hy
  have R5' := R5.grow hDD lt5
  have ok5 := R5'.okAt hk
  have nq' : ∀ y ∈ blkOf q', y ∉ blkOf pq := fun y hy hmm => by have := n5 y hy; have := h3.lt y (h.rp y hmm); omega
  obtain ⟨w6, s6, R6, f6⟩ := R5'.put hk ha (j := 3) (by decide) (D' := D') { e with v := { e.v with isr := x.ls }, qi := q' } (.slice q'.1 q'.2.1 q'.2.2) rfl rfl (fun _ => id) ⟨o5, ok5.or_, ok5.ot, ⟨fun y hy => .inr hy, ok5.reg.2.1, ok5.reg.2.2⟩, ⟨by show x.ls.length ≤ _; omega, ok5.len.2.1, ok5.len.2.2⟩⟩ lt5
  have ok6 := R6.okAt hk
  have v2 : w6.cell? ⟨g, o + 2, none⟩ = some (.int .i64 e.v.vr) := R6.get hk ha (j := 2) (by decide)
  obtain ⟨w7, s7, R7, f7⟩ := R6.put hk ha (j := 2) (by decide) (D' := D') { e with v := { e.v with isr := x.ls, vr := IntKind.i64.wrap (e.v.vr + 1) }, qi := q' } (.int .i64 (IntKind.i64.wrap (e.v.vr + 1))) rfl rfl (fun _ => id) ⟨ok6.oi, ok6.or_, ok6.ot, ok6.reg, ok6.len⟩ R6.lt
  obtain ⟨D8, e8, w8, e9, hv, R8, C8⟩ := settle76 R7 hk ha (by exact hnt)
  refine ⟨D8, e8, w8, beg _ ?_, ?_, R8, ?_⟩
  · have hr : (isrV ns x e.v).2 = 0 := by unfold isrV; rw [if_neg (by simp [hs]), if_neg hc, if_neg (by simp [hm]), if_neg hgood']
    rw [hr, g39_l34_x1_of g1]
    unfold g39_l34_x1
    simp only [addr_add, Nat.zero_add, r5, e5, s6, v2, s7, e9, obs, asP_pointer, asB_bool, asI_int, asS_string, asSl_slice, asM_map, asTup0, asTup1, asTup2, asTup3, asTup4, asTup5, asTup6, asTup7, asTup8, asTup9, asAgg2, asAgg3, asAgg4, asAgg5, asAgg6, asAgg7, asAgg8, asAgg9, asAgg12, getD0, getD1, getD2, getD3, getD4, getD5, getD6, getD7, getD8, getD9, getD10, getD11, getD12, getD13, getD14, getD15, getD16, getD17, getD18, getD19, Bool.not_true, Bool.not_false, Bool.false_eq_true, Bool.true_eq_false, ↓reduceIte, decide_true, decide_false, Option.isNone_some, Option.isNone_none, Option.isSome_some, Option.isSome_none, beq_self_eq_true, bne_self_eq_false, Bool.and_true, Bool.true_and, Bool.and_false, Bool.false_and, not_true_eq_false, not_false_eq_true]
  · rw [hv]; unfold isrV; rw [if_neg (by simp [hs]), if_neg hc, if_neg (by simp [hm]), if_neg hgood']
  · have c1 : Chg D w w7 D' := chgP ((((F3.app f5).app f6).app f7)) (fun y hy _ => by simp at hy; exact h.rp y hy) hDD (fun y hy => by
      rcases hy with hy | hy
      · exact .inl hy
      · have := n5 y hy; have := F3.size; exact .inr (by omega))
    exact c1.trans C8 h.lt
end
end Go.Proofs.Ytjcenfgmpbeldaa

namespace Go.Proofs.Ytjcenfgmpbeldaa
open Go Go.Ev
set_option maxRecDepth 100000
set_option linter.unusedVariables false
set_option linter.unusedSimpArgs false

theorem del48 {w : World} {a : Addr} {m : Int} (hc : w.cell? a = some (.int .i64 m)) (x : Int) : callF Try.prog 97 #[.int .i64 x, .pointer (some a)] w = some (.bool (x == m), w) := by
  refine g97_call ?_
  unfold g97
  simp only [hc, obs, asP_pointer, asB_bool, asI_int, asS_string, asSl_slice, asM_map, asTup0, asTup1, asTup2, asTup3, asTup4, asTup5, asTup6, asTup7, asTup8, asTup9, asAgg2, asAgg3, asAgg4, asAgg5, asAgg6, asAgg7, asAgg8, asAgg9, asAgg12, getD0, getD1, getD2, getD3, getD4, getD5, getD6, getD7, getD8, getD9, getD10, getD11, getD12, getD13, getD14, getD15, getD16, getD17, getD18, getD19, Bool.not_true, Bool.not_false, Bool.false_eq_true, Bool.true_eq_false, ↓reduceIte, decide_true, decide_false, Option.isNone_some, Option.isNone_none, Option.isSome_some, Option.isSome_none, beq_self_eq_true, bne_self_eq_false, Bool.and_true, Bool.true_and, Bool.and_false, Bool.false_and, not_true_eq_false, not_false_eq_true]

/-- IndexFunc: the first one that is m -/
theorem find63 {w : World} {q : Option Addr × Nat × Nat} {l : List Int} {a : Addr} {m : Int} (h : SlC w 1 q (intsV l)) (hn : l.length < 9223372036854775807) (hc : w.cell? a = some (.int .i64 m)) :
    ∃ n : Int, callF Try.prog 98 #[.slice q.1 q.2.1 q.2.2, .func (.func 97) #[] #[.pointer (some a)]] w = some (.int .i64 n, w) ∧ (n = -1 ∧ m ∉ l ∨ ∃ k : Nat, n = (k : Int) ∧ ∃ hk : k < l.length, l[k] = m ∧ m ∉ l.take k) := by
  have hl := h.1
  simp only [List.length_map, Nat.mul_one] at hl
  obtain ⟨e, t, w', g1, hQ⟩ := loopS_rule (b := g98x97_l2_b q a) (I := fun k s x => s = ((0 : Int), (k : Int)) ∧ x = w ∧ m ∉ l.take k)
    (Q := fun e s x => x = w ∧ (e = .ret ∧ (∃ k : Nat, s.1 = (k : Int) ∧ ∃ hk : k < l.length, l[k] = m ∧ m ∉ l.take k) ∨ e = .exit 0 ∧ m ∉ l)) (n := l.length)
    (fun k s x hk ⟨hs, hx, hv⟩ => by
      subst hs hx
      obtain ⟨a', i1, c1⟩ := h.get (i := k) (by simpa using hk)
      have k1 : decide ((k : Int) < (q.2.1 : Int)) = true := by simp; omega
      have c1' : x.cell? a' = some (.int .i64 l[k]) := by rw [c1]; simp
      have hw := wrap_succ (n := k) (by omega)
      have e48 := del48 hc l[k]
      by_cases he : l[k] = m
      · have k2 : (l[k] == m) = true := by simp [he]
        refine ⟨.ret, ((k : Int), (k : Int)), x, ?_, .inr ⟨by simp, rfl, .inl ⟨rfl, k, rfl, hk, he, hv⟩⟩⟩
        unfold g98x97_l2_b
        simp only [k1, i1, c1', e48, k2, obs, asP_pointer, asB_bool, asI_int, asS_string, asSl_slice, asM_map, asTup0, asTup1, asTup2, asTup3, asTup4, asTup5, asTup6, asTup7, asTup8, asTup9, asAgg2, asAgg3, asAgg4, asAgg5, asAgg6, asAgg7, asAgg8, asAgg9, asAgg12, getD0, getD1, getD2, getD3, getD4, getD5, getD6, getD7, getD8, getD9, getD10, getD11, getD12, getD13, getD14, getD15, getD16, getD17, getD18, getD19, Bool.not_true, Bool.not_false, Bool.false_eq_true, Bool.true_eq_false, ↓reduceIte, decide_true, decide_false, Option.isNone_some, Option.isNone_none, Option.isSome_some, Option.isSome_none, beq_self_eq_true, bne_self_eq_false, Bool.and_true, Bool.true_and, Bool.and_false, Bool.false_and, not_true_eq_false, not_false_eq_true]
      · have k2 : (l[k] == m) = false := by simp [he]
        refine ⟨.normal, ((0 : Int), ((k + 1 : Nat) : Int)), x, ?_, .inl ⟨rfl, rfl, rfl, ?_⟩⟩
        · unfold g98x97_l2_b
          simp only [k1, i1, c1', e48, k2, hw, obs, asP_pointer, asB_bool, asI_int, asS_string, asSl_slice, asM_map, asTup0, asTup1, asTup2, asTup3, asTup4, asTup5, asTup6, asTup7, asTup8, asTup9, asAgg2, asAgg3, asAgg4, asAgg5, asAgg6, asAgg7, asAgg8, asAgg9, asAgg12, getD0, getD1, getD2, getD3, getD4, getD5, getD6, getD7, getD8, getD9, getD10, getD11, getD12, getD13, getD14, getD15, getD16, getD17, getD18, getD19, Bool.not_true, Bool.not_false, Bool.false_eq_true, Bool.true_eq_false, ↓reduceIte, decide_true, decide_false, Option.isNone_some, Option.isNone_none, Option.isSome_some, Option.isSome_none, beq_self_eq_true, bne_self_eq_false, Bool.and_true, Bool.true_and, Bool.and_false, Bool.false_and, not_true_eq_false, not_false_eq_true]
        · rw [List.take_succ_eq_append_getElem hk]
          intro hm
          rcases List.mem_append.mp hm with hm | hm
          · exact hv hm
          · simp only [List.mem_singleton] at hm; exact he hm.symm)
    (fun s x ⟨hs, hx, hv⟩ => by
      subst hs hx
      rw [List.take_length] at hv
      refine ⟨.exit 0, ((0 : Int), (l.length : Int)), x, ?_, by simp, rfl, .inr ⟨rfl, hv⟩⟩
      unfold g98x97_l2_b
      have k1 : decide ((l.length : Int) < (q.2.1 : Int)) = false := by simp; omega
      simp only [k1, Bool.false_eq_true, if_false]) (k := 0) (s := ((0 : Int), (0 : Int))) (w := w) (Nat.zero_le _) ⟨rfl, rfl, by simp⟩
  obtain ⟨rfl, hQ⟩ := hQ
  rcases hQ with ⟨rfl, k, h0, hk⟩ | ⟨rfl, hv⟩
  · refine ⟨t.1, g98x97_call ?_, .inr ⟨k, h0, hk⟩⟩
    unfold g98x97
    rw [g98x97_l2_ret_of g1, g98x97_l2_ret]
  · refine ⟨-1, g98x97_call ?_, .inl ⟨rfl, hv⟩⟩
    unfold g98x97
    rw [g98x97_l2_x0_of g1, g98x97_l2_x0]

def without (l : List Int) (m : Int) : List Int := l.filter (fun x => !(x == m))
theorem without_not {l : List Int} {m : Int} (h : m ∉ l) : without l m = l := by
  unfold without
  rw [List.filter_eq_self]
  intro x hx
  have : ¬ x = m := fun e => h (e ▸ hx)
  simp [this]
theorem without_len (l : List Int) (m : Int) : (without l m).length ≤ l.length := List.length_filter_le _ _
theorem without_succ {l : List Int} {m : Int} {k : Nat} (hk : k < l.length) : without (l.take (k + 1)) m = without (l.take k) m ++ if l[k] = m then [] else [l[k]] := by
  unfold without
  rw [List.take_succ_eq_append_getElem hk, List.filter_append]
  by_cases he : l[k] = m <;> simp [he]

/-- DeleteFunc: all but m, in the same row -/
theorem delete47 {w : World} {q : Option Addr × Nat × Nat} {l : List Int} {a : Addr} {m : Int} (h : Own w 3 1 q (intsV l)) (hn : l.length < 4611686018427387904) (hc : w.cell? a = some (.int .i64 m)) (ha : a.block ∉ blkOf q) :
    ∃ v w', callF Try.prog 96 #[.slice q.1 q.2.1 q.2.2, .func (.func 97) #[] #[.pointer (some a)]] w = some (.slice v.1 v.2.1 v.2.2, w') ∧ Own w' 3 1 v (intsV (without l m)) ∧ Fr (blkOf q) w w' ∧ ∀ y ∈ blkOf v, y ∈ blkOf q := by
  have hl := h.len
  simp only [List.length_map, Nat.mul_one] at hl
  obtain ⟨n, e1, hf⟩ := find63 h.slC (by omega) hc
  rcases hf with ⟨rfl, hm⟩ | ⟨k0, rfl, hk0, hm0, hnot⟩
  · refine ⟨q, w, g96x97_call ?_, by rw [without_not hm]; exact h, Fr.refl _ _, fun _ => id⟩
    unfold g96x97
    have k1 : ((-1 : Int) == -1) = true := rfl
    simp only [e1, k1, obs, asP_pointer, asB_bool, asI_int, asS_string, asSl_slice, asM_map, asTup0, asTup1, asTup2, asTup3, asTup4, asTup5, asTup6, asTup7, asTup8, asTup9, asAgg2, asAgg3, asAgg4, asAgg5, asAgg6, asAgg7, asAgg8, asAgg9, asAgg12, getD0, getD1, getD2, getD3, getD4, getD5, getD6, getD7, getD8, getD9, getD10, getD11, getD12, getD13, getD14, getD15, getD16, getD17, getD18, getD19, Bool.not_true, Bool.not_false, Bool.false_eq_true, Bool.true_eq_false, ↓reduceIte, decide_true, decide_false, Option.isNone_some, Option.isNone_none, Option.isSome_some, Option.isSome_none, beq_self_eq_true, bne_self_eq_false, Bool.and_true, Bool.true_and, Bool.and_false, Bool.false_and, not_true_eq_false, not_false_eq_true]
  · -- the row behind j rounds: the first ones are those that are kept
    obtain ⟨t, w1, g1, i, ht, hi, ys, o1, f1, hys⟩ := loopS_countX 0 (b := g96x97_l3_b q a) (n := l.length)
      (I := fun j s x => ∃ i : Nat, s = ((i : Int), (j : Int)) ∧ i < j ∧ ∃ ys : List Int, Own x 3 1 q (intsV ys) ∧ Fr (blkOf q) w x ∧ ys.take i = without (l.take j) m ∧ ys.drop j = l.drop j)
      (fun j s x hj ⟨i, hs, hi, ys, ho, hF, hys, hd⟩ => by
        subst hs
        have hyl := ho.len
        simp only [List.length_map, Nat.mul_one] at hyl
        obtain ⟨g, off, a1, i1, c1⟩ := ints_at ho (i := j) (by omega)
        have hv : ys.getD j 0 = l[j] := by
          have := congrArg (fun z => z[0]?) hd
          simp at this
          rw [List.getElem?_eq_getElem hj, List.getElem?_eq_getElem (by omega)] at this
          simp only [Option.some.injEq] at this
          rw [List.getD_eq_getElem?_getD, List.getElem?_eq_getElem (by omega)]
          simpa using this
        rw [hv] at c1
        have hcx : x.cell? a = some (.int .i64 m) := by
          rw [cell_of_blk_eq (hF.keep a.block (World.block_lt_of_cell? w a hc) ha)]; exact hc
        have e48 := del48 hcx l[j]
        have k1 : decide ((j : Int) < (q.2.1 : Int)) = true := by simp; omega
        have hw := wrap_succ (n := j) (by omega)
        have hwi := wrap_succ (n := i) (by omega)
        by_cases he : l[j] = m
        · have k2 : (l[j] == m) = true := by simp [he]
          refine ⟨((i : Int), ((j + 1 : Nat) : Int)), x, ?_, i, rfl, by omega, ys, ho, hF, ?_, ?_⟩
          · unfold g96x97_l3_b
            simp only [k1, i1, c1, e48, k2, hw, obs, asP_pointer, asB_bool, asI_int, asS_string, asSl_slice, asM_map, asTup0, asTup1, asTup2, asTup3, asTup4, asTup5, asTup6, asTup7, asTup8, asTup9, asAgg2, asAgg3, asAgg4, asAgg5, asAgg6, asAgg7, asAgg8, asAgg9, asAgg12, getD0, getD1, getD2, getD3, getD4, getD5, getD6, getD7, getD8, getD9, getD10, getD11, getD12, getD13, getD14, getD15, getD16, getD17, getD18, getD19, Bool.not_true, Bool.not_false, Bool.false_eq_true, Bool.true_eq_false, ↓reduceIte, decide_true, decide_false, Option.isNone_some, Option.isNone_none, Option.isSome_some, Option.isSome_none, beq_self_eq_true, bne_self_eq_false, Bool.and_true, Bool.true_and, Bool.and_false, Bool.false_and, not_true_eq_false, not_false_eq_true]
          · rw [without_succ hj, if_pos he, List.append_nil, hys]
          · have := congrArg (List.drop 1) hd
            simpa using this
        · have k2 : (l[j] == m) = false := by simp [he]
          obtain ⟨g', off', a2, i2, c2⟩ := ints_at ho (i := i) (by omega)
          obtain ⟨s3, o3, f3⟩ := ho.set a2 (k := i) (by simp; omega) (u := .int .i64 l[j]) rfl
          refine ⟨(((i + 1 : Nat) : Int), ((j + 1 : Nat) : Int)), x.setCell ⟨g', off' + i, none⟩ (.int .i64 l[j]), ?_, i + 1, rfl, by omega, ys.set i l[j], ?_, ?_, ?_, ?_⟩
          · unfold g96x97_l3_b
            simp only [k1, i1, c1, e48, k2, hw, hwi, i2, s3, obs, asP_pointer, asB_bool, asI_int, asS_string, asSl_slice, asM_map, asTup0, asTup1, asTup2, asTup3, asTup4, asTup5, asTup6, asTup7, asTup8, asTup9, asAgg2, asAgg3, asAgg4, asAgg5, asAgg6, asAgg7, asAgg8, asAgg9, asAgg12, getD0, getD1, getD2, getD3, getD4, getD5, getD6, getD7, getD8, getD9, getD10, getD11, getD12, getD13, getD14, getD15, getD16, getD17, getD18, getD19, Bool.not_true, Bool.not_false, Bool.false_eq_true, Bool.true_eq_false, ↓reduceIte, decide_true, decide_false, Option.isNone_some, Option.isNone_none, Option.isSome_some, Option.isSome_none, beq_self_eq_true, bne_self_eq_false, Bool.and_true, Bool.true_and, Bool.and_false, Bool.false_and, not_true_eq_false, not_false_eq_true]
          · simpa [intsV, List.map_set] using o3
          · exact hF.trans f3
          · rw [without_succ hj, if_neg he, ← hys, List.take_succ_eq_append_getElem (by simp; omega), List.take_set_of_le (by omega)]
            simp
          · rw [List.drop_set_of_lt (by omega)]
            have := congrArg (List.drop 1) hd
            simpa using this)
      (fun s x ⟨i, hs, hi, ys, ho, hF, hys, hd⟩ => by
        subst hs
        unfold g96x97_l3_b
        have k1 : decide ((l.length : Int) < (q.2.1 : Int)) = false := by simp; omega
        simp only [k1, Bool.false_eq_true, if_false]) (k := k0 + 1) (s := ((k0 : Int), ((k0 + 1 : Nat) : Int))) (w := w) (by omega)
      ⟨k0, rfl, by omega, l, h, Fr.refl _ _, by rw [without_succ hk0, if_pos hm0, List.append_nil, without_not hnot], rfl⟩
    subst ht
    rw [List.take_length] at hys
    obtain ⟨hys, hd⟩ := hys
    have ile : i ≤ q.2.1 := by omega
    obtain ⟨w2, e2, o2, f2⟩ := clear_tail (P := Try.prog) (t := 28) (e := 3) (ty := 0) (cs := #[false]) Try.underlying28 (z := .int .i64 0) (by kernel_rfl) rfl rfl o1 ile
    have s1 := slc_from (u := q) (n := 1) ile h.le
    have s2 := slc_to (u := q) (n := 1) (j := i) (by have := h.le; omega)
    have hq0 : (if q.2.2 = 0 then q.1 else q.1.map (·.add (0 * 1)), i - 0, q.2.2 - 0) = (q.1, i, q.2.2) := by
      simp only [Nat.zero_mul, Nat.sub_zero]
      have : q.1.map (fun x : Addr => x.add 0) = q.1 := by cases q.1 <;> simp [addr_add0]
      rw [this, ite_self]
    rw [hq0] at s2
    refine ⟨(q.1, i, q.2.2), w2, g96x97_call ?_, ?_, f1.trans f2, fun y hy => hy⟩
    · unfold g96x97
      have k1 : ((k0 : Int) == -1) = false := by
        have : ¬ ((k0 : Int) = -1) := by omega
        simp [this]
      have hwi := wrap_succ (n := k0) (by omega)
      simp only [e1, k1, hwi, obs, asP_pointer, asB_bool, asI_int, asS_string, asSl_slice, asM_map, asTup0, asTup1, asTup2, asTup3, asTup4, asTup5, asTup6, asTup7, asTup8, asTup9, asAgg2, asAgg3, asAgg4, asAgg5, asAgg6, asAgg7, asAgg8, asAgg9, asAgg12, getD0, getD1, getD2, getD3, getD4, getD5, getD6, getD7, getD8, getD9, getD10, getD11, getD12, getD13, getD14, getD15, getD16, getD17, getD18, getD19, Bool.not_true, Bool.not_false, Bool.false_eq_true, Bool.true_eq_false, ↓reduceIte, decide_true, decide_false, Option.isNone_some, Option.isNone_none, Option.isSome_some, Option.isSome_none, beq_self_eq_true, bne_self_eq_false, Bool.and_true, Bool.true_and, Bool.and_false, Bool.false_and, not_true_eq_false, not_false_eq_true]
      rw [g96x97_l3_x0_of g1]
      unfold g96x97_l3_x0
      simp only [s1, e2, s2, obs, asP_pointer, asB_bool, asI_int, asS_string, asSl_slice, asM_map, asTup0, asTup1, asTup2, asTup3, asTup4, asTup5, asTup6, asTup7, asTup8, asTup9, asAgg2, asAgg3, asAgg4, asAgg5, asAgg6, asAgg7, asAgg8, asAgg9, asAgg12, getD0, getD1, getD2, getD3, getD4, getD5, getD6, getD7, getD8, getD9, getD10, getD11, getD12, getD13, getD14, getD15, getD16, getD17, getD18, getD19, Bool.not_true, Bool.not_false, Bool.false_eq_true, Bool.true_eq_false, ↓reduceIte, decide_true, decide_false, Option.isNone_some, Option.isNone_none, Option.isSome_some, Option.isSome_none, beq_self_eq_true, bne_self_eq_false, Bool.and_true, Bool.true_and, Bool.and_false, Bool.false_and, not_true_eq_false, not_false_eq_true]
    · rw [← hys]
      simpa [intsV, List.map_take] using o2
end Go.Proofs.Ytjcenfgmpbeldaa

namespace Go.Proofs.Ytjcenfgmpbeldaa
open Go Go.Ev
set_option maxRecDepth 100000
set_option linter.unusedVariables false
set_option linter.unusedSimpArgs false

def fenceV (ns : List NV) (n : Int) (v : PV) : PV :=
  if n ∈ v.isr then (if v.ld = n then electV ns (if (without v.isr n).any (aliveB ns) then { v with isr := without v.isr n, vr := IntKind.i64.wrap (v.vr + 1) } else v) else (if (without v.isr n).any (aliveB ns) then { v with isr := without v.isr n, vr := IntKind.i64.wrap (v.vr + 1) } else v)) else v

section
variable {w : World} {D : Nat → Prop} {b c : Nat} {nq pq : Sh} {ns : List NV} {es : List PE} {next count : Int}

theorem without72 {q : Sh} {l : List Int} (h : SlC w 1 q (l.map (Value.int .i64))) (hq : q.1 = none → q.2.1 = 0) (hn : l.length ≤ 1000000000) (n : Int) :
    ∃ v w', callF Try.prog 72 #[.slice q.1 q.2.1 q.2.2, .int .i64 n] w = some (.slice v.1 v.2.1 v.2.2, w') ∧ Own w' 3 1 v (intsV' (without l n)) ∧ Fr [] w w' ∧ ∀ y ∈ blkOf v, w.heap.size ≤ y := by
  have fa : Fr [] w (w.alloc (.cells #[.int .i64 n] 3)) := Fr.alloc _
  have ba : Blk (w.alloc (.cells #[.int .i64 n] 3)) w.heap.size [.int .i64 n] 3 := Blk.new w [.int .i64 n] 3
  obtain ⟨w1, hw1⟩ : ∃ w1, w.alloc (.cells #[.int .i64 n] 3) = w1 := ⟨_, rfl⟩
  rw [hw1] at fa ba
  obtain ⟨q2, w2, e2, o2, f2, n2⟩ := clone36 (h.fr fa (by simp)) hq hn
  have c2 : w2.cell? ⟨w.heap.size, 0, none⟩ = some (.int .i64 n) := (ba.fr f2 (by simp)).cell 0
  have z1 := fa.size
  have lb := ba.lt
  obtain ⟨v, w3, e3, o3, f3, n3⟩ := delete47 (a := ⟨w.heap.size, 0, none⟩) (m := n) o2 (by omega) c2 (fun hy => by have := n2 _ hy; simp at this; omega)
  have F2 : Fr [] w w2 := (Fr.mono (Fr.app fa f2) (by have z0_ := Fr.size fa; have z1_ := Fr.size f2; intro y_ hy_ hl_; grind [blkOf]))
  refine ⟨v, w3, g72_call (u0 := q) ?_, o3, (F2.app f3).mono (by intro y hy hl; simp at hy; have := n2 y hy; omega), fun y hy => by have := n2 y (n3 y hy); omega⟩
  unfold g72
  simp only [hw1, e2, e3, obs, asP_pointer, asB_bool, asI_int, asS_string, asSl_slice, asM_map, asTup0, asTup1, asTup2, asTup3, asTup4, asTup5, asTup6, asTup7, asTup8, asTup9, asAgg2, asAgg3, asAgg4, asAgg5, asAgg6, asAgg7, asAgg8, asAgg9, asAgg12, getD0, getD1, getD2, getD3, getD4, getD5, getD6, getD7, getD8, getD9, getD10, getD11, getD12, getD13, getD14, getD15, getD16, getD17, getD18, getD19, Bool.not_true, Bool.not_false, Bool.false_eq_true, Bool.true_eq_false, ↓reduceIte, decide_true, decide_false, Option.isNone_some, Option.isNone_none, Option.isSome_some, Option.isSome_none, beq_self_eq_true, bne_self_eq_false, Bool.and_true, Bool.true_and, Bool.and_false, Bool.false_and, not_true_eq_false, not_false_eq_true]

theorem alive74 (h : Raw w D b c nq pq ns es next count) {a : Addr} (ha : w.cell? a = some (.pointer (some ⟨b, 0, none⟩))) {n : Int} (hn : 0 ≤ n ∧ n < ns.length) :
    callF Try.prog 74 #[.int .i64 n, .pointer (some a)] w = some (.bool (aliveB ns n), w) := by
  have hnl : n.toNat < ns.length := by omega
  obtain ⟨an, i2, al0, _, _⟩ := h.node_at hnl
  have hnn : ((n.toNat : Nat) : Int) = n := by omega
  rw [hnn] at i2
  have hal : aliveB ns n = ns[n.toNat].al := by unfold aliveB; rw [List.getElem?_eq_getElem hnl]
  have c0 : w.cell? ⟨b, 0, none⟩ = some (.slice nq.1 nq.2.1 nq.2.2) := h.tbl.cell 0
  refine g74_call ?_
  unfold g74
  rw [hal]
  simp only [ha, c0, i2, al0, obs, asP_pointer, asB_bool, asI_int, asS_string, asSl_slice, asM_map, asTup0, asTup1, asTup2, asTup3, asTup4, asTup5, asTup6, asTup7, asTup8, asTup9, asAgg2, asAgg3, asAgg4, asAgg5, asAgg6, asAgg7, asAgg8, asAgg9, asAgg12, getD0, getD1, getD2, getD3, getD4, getD5, getD6, getD7, getD8, getD9, getD10, getD11, getD12, getD13, getD14, getD15, getD16, getD17, getD18, getD19, Bool.not_true, Bool.not_false, Bool.false_eq_true, Bool.true_eq_false, ↓reduceIte, decide_true, decide_false, Option.isNone_some, Option.isNone_none, Option.isSome_some, Option.isSome_none, beq_self_eq_true, bne_self_eq_false, Bool.and_true, Bool.true_and, Bool.and_false, Bool.false_and, not_true_eq_false, not_false_eq_true]

theorem any73 (h : Raw w D b c nq pq ns es next count) {a : Addr} (ha : w.cell? a = some (.pointer (some ⟨b, 0, none⟩))) {q : Sh} {l : List Int} (hu : SlC w 1 q (intsV l)) (hn : Names ns l) (hl : l.length ≤ 1000000000) :
    callF Try.prog 73 #[.slice q.1 q.2.1 q.2.2, .func (.func 74) #[] #[.pointer (some a)]] w = some (.bool (l.any (aliveB ns)), w) := by
  have hq := hu.1
  simp only [List.length_map, Nat.mul_one] at hq
  obtain ⟨e, t, w', g1, rfl, hQ⟩ := loopS_rule (b := g98x74_l2_b q a) (I := fun k s x => s = ((0 : Int), (k : Int)) ∧ x = w ∧ (l.take k).any (aliveB ns) = false)
    (Q := fun e s x => x = w ∧ (e = .ret ∧ 0 ≤ s.1 ∧ l.any (aliveB ns) = true ∨ e = .exit 0 ∧ l.any (aliveB ns) = false)) (n := l.length)
    (fun k s x hk ⟨hs, hx, hv⟩ => by
      subst hs hx
      obtain ⟨a', i1, c1⟩ := hu.get (i := k) (by simpa using hk)
      have k1 : decide ((k : Int) < (q.2.1 : Int)) = true := by simp; omega
      have c1' : x.cell? a' = some (.int .i64 l[k]) := by rw [c1]; simp
      have hw := wrap_succ (n := k) (by omega)
      have e74 := alive74 h ha (hn l[k] (List.getElem_mem hk))
      cases he : aliveB ns l[k] with
      | true =>
        rw [he] at e74
        refine ⟨.ret, ((k : Int), (k : Int)), x, ?_, .inr ⟨by simp, rfl, .inl ⟨rfl, by simp, List.any_eq_true.mpr ⟨_, List.getElem_mem hk, he⟩⟩⟩⟩
        unfold g98x74_l2_b
        simp only [k1, i1, c1', e74, obs, asP_pointer, asB_bool, asI_int, asS_string, asSl_slice, asM_map, asTup0, asTup1, asTup2, asTup3, asTup4, asTup5, asTup6, asTup7, asTup8, asTup9, asAgg2, asAgg3, asAgg4, asAgg5, asAgg6, asAgg7, asAgg8, asAgg9, asAgg12, getD0, getD1, getD2, getD3, getD4, getD5, getD6, getD7, getD8, getD9, getD10, getD11, getD12, getD13, getD14, getD15, getD16, getD17, getD18, getD19, Bool.not_true, Bool.not_false, Bool.false_eq_true, Bool.true_eq_false, ↓reduceIte, decide_true, decide_false, Option.isNone_some, Option.isNone_none, Option.isSome_some, Option.isSome_none, beq_self_eq_true, bne_self_eq_false, Bool.and_true, Bool.true_and, Bool.and_false, Bool.false_and, not_true_eq_false, not_false_eq_true]
      | false =>
        rw [he] at e74
        refine ⟨.normal, ((0 : Int), ((k + 1 : Nat) : Int)), x, ?_, .inl ⟨rfl, rfl, rfl, ?_⟩⟩
        · unfold g98x74_l2_b
          simp only [k1, i1, c1', e74, hw, obs, asP_pointer, asB_bool, asI_int, asS_string, asSl_slice, asM_map, asTup0, asTup1, asTup2, asTup3, asTup4, asTup5, asTup6, asTup7, asTup8, asTup9, asAgg2, asAgg3, asAgg4, asAgg5, asAgg6, asAgg7, asAgg8, asAgg9, asAgg12, getD0, getD1, getD2, getD3, getD4, getD5, getD6, getD7, getD8, getD9, getD10, getD11, getD12, getD13, getD14, getD15, getD16, getD17, getD18, getD19, Bool.not_true, Bool.not_false, Bool.false_eq_true, Bool.true_eq_false, ↓reduceIte, decide_true, decide_false, Option.isNone_some, Option.isNone_none, Option.isSome_some, Option.isSome_none, beq_self_eq_true, bne_self_eq_false, Bool.and_true, Bool.true_and, Bool.and_false, Bool.false_and, not_true_eq_false, not_false_eq_true]
        · rw [List.take_succ_eq_append_getElem hk, List.any_append, hv]; simp [he])
    (fun s x ⟨hs, hx, hv⟩ => by
      subst hs hx
      rw [List.take_length] at hv
      refine ⟨.exit 0, ((0 : Int), (l.length : Int)), x, ?_, by simp, rfl, .inr ⟨rfl, hv⟩⟩
      unfold g98x74_l2_b
      have k1 : decide ((l.length : Int) < (q.2.1 : Int)) = false := by simp; omega
      simp only [k1, Bool.false_eq_true, if_false]) (k := 0) (s := ((0 : Int), (0 : Int))) (w := w) (Nat.zero_le _) ⟨rfl, rfl, by simp⟩
  have fin : ∀ n : Int, callF Try.prog 98 #[.slice q.1 q.2.1 q.2.2, .func (.func 74) #[] #[.pointer (some a)]] w' = some (.int .i64 n, w') → decide (n ≥ 0) = l.any (aliveB ns) →
      callF Try.prog 73 #[.slice q.1 q.2.1 q.2.2, .func (.func 74) #[] #[.pointer (some a)]] w' = some (.bool (l.any (aliveB ns)), w') := by
    intro n e hn
    refine g73x74_call ?_
    unfold g73x74
    simp only [e, hn, obs, asP_pointer, asB_bool, asI_int, asS_string, asSl_slice, asM_map, asTup0, asTup1, asTup2, asTup3, asTup4, asTup5, asTup6, asTup7, asTup8, asTup9, asAgg2, asAgg3, asAgg4, asAgg5, asAgg6, asAgg7, asAgg8, asAgg9, asAgg12, getD0, getD1, getD2, getD3, getD4, getD5, getD6, getD7, getD8, getD9, getD10, getD11, getD12, getD13, getD14, getD15, getD16, getD17, getD18, getD19, Bool.not_true, Bool.not_false, Bool.false_eq_true, Bool.true_eq_false, ↓reduceIte, decide_true, decide_false, Option.isNone_some, Option.isNone_none, Option.isSome_some, Option.isSome_none, beq_self_eq_true, bne_self_eq_false, Bool.and_true, Bool.true_and, Bool.and_false, Bool.false_and, not_true_eq_false, not_false_eq_true]
  rcases hQ with ⟨rfl, h0, hv⟩ | ⟨rfl, hv⟩
  · refine fin t.1 (g98x74_call ?_) (by rw [hv]; simp [h0])
    unfold g98x74
    rw [g98x74_l2_ret_of g1, g98x74_l2_ret]
  · refine fin (-1) (g98x74_call ?_) (by rw [hv]; rfl)
    unfold g98x74
    rw [g98x74_l2_x0_of g1, g98x74_l2_x0]

theorem without_sub {l : List Int} {n x : Int} (h : x ∈ without l n) : x ∈ l := (List.mem_filter.mp h).1

/-- one partition -/
theorem fence_round {w w0 : World} {e : PE} {k : Nat} {n : Int} (h : Raw w D b c nq pq ns (es.set k e) next count) (hk : k < es.length) (hcap : w.cell? ⟨w0.heap.size, 0, none⟩ = some (.pointer (some ⟨b, 0, none⟩))) (hcd : ¬ D w0.heap.size) (hnm : Names ns e.v.isr) (hkl : es.length ≤ 1000) :
    ∃ D' e' w', g38_l22_b pq w0 n (k : Int) w = some (.normal, ((k + 1 : Nat) : Int), w') ∧ e'.v = fenceV ns n e.v ∧ Raw w' D' b c nq pq ns (es.set k e') next count ∧ Chg D w w' D' := by
  have hpl := h.plen
  simp only [List.length_set] at hpl
  have hk1 : k < (es.set k e).length := by simpa using hk
  obtain ⟨g, o, ha, hgb⟩ := h.part_addr hk1
  have hok := h.okAt hk
  have hlen := hok.len
  have p1 : w.cell? ⟨b, 1, none⟩ = some (.slice pq.1 pq.2.1 pq.2.2) := h.tbl.cell 1
  have c0 : w.cell? ⟨g, o, none⟩ = some (.int .i64 e.v.ld) := h.get hk ha (j := 0) (by decide)
  have c3 : w.cell? ⟨g, o + 3, none⟩ = some (.slice e.qi.1 e.qi.2.1 e.qi.2.2) := h.get hk ha (j := 3) (by decide)
  have e1 := contains32 hok.oi.slC (by omega) n
  have k0 : decide ((k : Int) < (pq.2.1 : Int)) = true := by simp; omega
  have hw := wrap_succ (n := k) (by omega)
  by_cases hm : n ∈ e.v.isr
  case neg =>
    have km : decide (n ∈ e.v.isr) = false := by simp [hm]
    refine ⟨D, e, w, ?_, by unfold fenceV; rw [if_neg hm], h, Chg.refl _ _⟩
    unfold g38_l22_b
    simp only [k0, hcap, addr_add, Nat.zero_add, p1, ha, c3, e1, km, hw, obs, asP_pointer, asB_bool, asI_int, asS_string, asSl_slice, asM_map, asTup0, asTup1, asTup2, asTup3, asTup4, asTup5, asTup6, asTup7, asTup8, asTup9, asAgg2, asAgg3, asAgg4, asAgg5, asAgg6, asAgg7, asAgg8, asAgg9, asAgg12, getD0, getD1, getD2, getD3, getD4, getD5, getD6, getD7, getD8, getD9, getD10, getD11, getD12, getD13, getD14, getD15, getD16, getD17, getD18, getD19, Bool.not_true, Bool.not_false, Bool.false_eq_true, Bool.true_eq_false, ↓reduceIte, decide_true, decide_false, Option.isNone_some, Option.isNone_none, Option.isSome_some, Option.isSome_none, beq_self_eq_true, bne_self_eq_false, Bool.and_true, Bool.true_and, Bool.and_false, Bool.false_and, not_true_eq_false, not_false_eq_true]
  have km : decide (n ∈ e.v.isr) = true := by simp [hm]
  obtain ⟨q2, w2, e2, o2, f2, n2⟩ := without72 hok.oi.slC (fun hn => (hok.oi.empty hn).2.1) (by omega) n
  have R2 := h.fr f2 (by simp)
  have hltc : w0.heap.size < w.heap.size := by
    have := World.block_lt_of_cell? w _ hcap
    exact this
  have hcap2 : w2.cell? ⟨w0.heap.size, 0, none⟩ = some (.pointer (some ⟨b, 0, none⟩)) := by
    rw [cell_of_blk_eq (f2.keep _ hltc (by simp))]; exact hcap
  have hrl := without_len e.v.isr n
  have e3 := any73 R2 hcap2 o2.slC (fun x hx => hnm x (without_sub hx)) (by omega)
  have hcapf : ∀ {x y : World}, x.cell? ⟨w0.heap.size, 0, none⟩ = some (.pointer (some ⟨b, 0, none⟩)) → w.heap.size ≤ x.heap.size → Fr (blkOf pq) x y → y.cell? ⟨w0.heap.size, 0, none⟩ = some (.pointer (some ⟨b, 0, none⟩)) := by
    intro x y hx hz f
    have hlt : w0.heap.size < x.heap.size := World.block_lt_of_cell? x _ hx
    rw [cell_of_blk_eq (f.keep _ hlt (fun hmm => hcd (h.rp _ hmm)))]; exact hx
  cases hany : (without e.v.isr n).any (aliveB ns) with
  | true =>
    rw [hany] at e3
    let D' : Nat → Prop := fun y => D y ∨ y ∈ blkOf q2
    have hDD : ∀ y, D y → D' y := fun y hy => .inl hy
    have lt2 : ∀ y, D' y → y < w2.heap.size := fun y hy => by
      rcases hy with hy | hy
      · exact R2.lt y hy
      · exact o2.lt y hy
    have R2' := R2.grow hDD lt2
    have ok2 := R2'.okAt hk
    obtain ⟨w3, s3, R3, f3⟩ := R2'.put hk ha (j := 3) (by decide) (D' := D') { e with v := { e.v with isr := without e.v.isr n }, qi := q2 } (.slice q2.1 q2.2.1 q2.2.2) rfl rfl (fun _ => id) ⟨o2, ok2.or_, ok2.ot, ⟨fun y hy => .inr hy, ok2.reg.2.1, ok2.reg.2.2⟩, ⟨by show (without e.v.isr n).length ≤ _; omega, ok2.len.2.1, ok2.len.2.2⟩⟩ lt2
    have ok3 := R3.okAt hk
    have v2 : w3.cell? ⟨g, o + 2, none⟩ = some (.int .i64 e.v.vr) := R3.get hk ha (j := 2) (by decide)
    obtain ⟨w4, s4, R4, f4⟩ := R3.put hk ha (j := 2) (by decide) (D' := D') { e with v := { e.v with isr := without e.v.isr n, vr := IntKind.i64.wrap (e.v.vr + 1) }, qi := q2 } (.int .i64 (IntKind.i64.wrap (e.v.vr + 1))) rfl rfl (fun _ => id) ⟨ok3.oi, ok3.or_, ok3.ot, ok3.reg, ok3.len⟩ R3.lt
    have t0 : w4.cell? ⟨g, o, none⟩ = some (.int .i64 e.v.ld) := R4.get hk ha (j := 0) (by decide)
    have f24 : Fr (blkOf pq) w2 w4 := (f3.app f4).mono (by intro y hy _; simpa using hy)
    have hcap4 := hcapf hcap2 f2.size f24
    have F4 : Fr (blkOf pq) w w4 := (f2.app f24).mono (by intro y hy _; simpa using hy)
    have hnew : ∀ y, D' y → D y ∨ w.heap.size ≤ y := fun y hy => by
      rcases hy with hy | hy
      · exact .inl hy
      · exact .inr (n2 y hy)
    by_cases hld : e.v.ld = n
    · have kl : (e.v.ld == n) = true := by simp [hld]
      obtain ⟨w5, e5, R5, f5⟩ := R4.elect hk ha (fun x hx => hnm x (without_sub hx))
      refine ⟨D', _, w5, ?_, ?_, R5, chgP (F4.trans f5) (fun y hy _ => h.rp y hy) hDD hnew⟩
      · unfold g38_l22_b
        simp only [k0, hcap, addr_add, Nat.zero_add, p1, ha, c3, e1, km, e2, e3, s3, v2, s4, t0, kl, hcap4, e5, hw, obs, asP_pointer, asB_bool, asI_int, asS_string, asSl_slice, asM_map, asTup0, asTup1, asTup2, asTup3, asTup4, asTup5, asTup6, asTup7, asTup8, asTup9, asAgg2, asAgg3, asAgg4, asAgg5, asAgg6, asAgg7, asAgg8, asAgg9, asAgg12, getD0, getD1, getD2, getD3, getD4, getD5, getD6, getD7, getD8, getD9, getD10, getD11, getD12, getD13, getD14, getD15, getD16, getD17, getD18, getD19, Bool.not_true, Bool.not_false, Bool.false_eq_true, Bool.true_eq_false, ↓reduceIte, decide_true, decide_false, Option.isNone_some, Option.isNone_none, Option.isSome_some, Option.isSome_none, beq_self_eq_true, bne_self_eq_false, Bool.and_true, Bool.true_and, Bool.and_false, Bool.false_and, not_true_eq_false, not_false_eq_true]
      · unfold fenceV; rw [if_pos hm, if_pos hld, hany]; rfl
    · have kl : (e.v.ld == n) = false := by simp [hld]
      refine ⟨D', _, w4, ?_, ?_, R4, chgP F4 (fun y hy _ => h.rp y hy) hDD hnew⟩
      · unfold g38_l22_b
        simp only [k0, hcap, addr_add, Nat.zero_add, p1, ha, c3, e1, km, e2, e3, s3, v2, s4, t0, kl, hw, obs, asP_pointer, asB_bool, asI_int, asS_string, asSl_slice, asM_map, asTup0, asTup1, asTup2, asTup3, asTup4, asTup5, asTup6, asTup7, asTup8, asTup9, asAgg2, asAgg3, asAgg4, asAgg5, asAgg6, asAgg7, asAgg8, asAgg9, asAgg12, getD0, getD1, getD2, getD3, getD4, getD5, getD6, getD7, getD8, getD9, getD10, getD11, getD12, getD13, getD14, getD15, getD16, getD17, getD18, getD19, Bool.not_true, Bool.not_false, Bool.false_eq_true, Bool.true_eq_false, ↓reduceIte, decide_true, decide_false, Option.isNone_some, Option.isNone_none, Option.isSome_some, Option.isSome_none, beq_self_eq_true, bne_self_eq_false, Bool.and_true, Bool.true_and, Bool.and_false, Bool.false_and, not_true_eq_false, not_false_eq_true]
      · unfold fenceV; rw [if_pos hm, if_neg hld, hany]; rfl
  | false =>
    rw [hany] at e3
    have t0 : w2.cell? ⟨g, o, none⟩ = some (.int .i64 e.v.ld) := R2.get hk ha (j := 0) (by decide)
    by_cases hld : e.v.ld = n
    · have kl : (e.v.ld == n) = true := by simp [hld]
      obtain ⟨w5, e5, R5, f5⟩ := R2.elect hk ha hnm
      refine ⟨D, _, w5, ?_, ?_, R5, chgP (f2.app f5) (fun y hy _ => by simp at hy; exact h.rp y hy) (fun _ => id) (fun y hy => .inl hy)⟩
      · unfold g38_l22_b
        simp only [k0, hcap, addr_add, Nat.zero_add, p1, ha, c3, e1, km, e2, e3, t0, kl, hcap2, e5, hw, obs, asP_pointer, asB_bool, asI_int, asS_string, asSl_slice, asM_map, asTup0, asTup1, asTup2, asTup3, asTup4, asTup5, asTup6, asTup7, asTup8, asTup9, asAgg2, asAgg3, asAgg4, asAgg5, asAgg6, asAgg7, asAgg8, asAgg9, asAgg12, getD0, getD1, getD2, getD3, getD4, getD5, getD6, getD7, getD8, getD9, getD10, getD11, getD12, getD13, getD14, getD15, getD16, getD17, getD18, getD19, Bool.not_true, Bool.not_false, Bool.false_eq_true, Bool.true_eq_false, ↓reduceIte, decide_true, decide_false, Option.isNone_some, Option.isNone_none, Option.isSome_some, Option.isSome_none, beq_self_eq_true, bne_self_eq_false, Bool.and_true, Bool.true_and, Bool.and_false, Bool.false_and, not_true_eq_false, not_false_eq_true]
      · unfold fenceV; rw [if_pos hm, if_pos hld, hany]; rfl
    · have kl : (e.v.ld == n) = false := by simp [hld]
      refine ⟨D, e, w2, ?_, ?_, R2, chg_fr f2 (Chg.refl _ _)⟩
      · unfold g38_l22_b
        simp only [k0, hcap, addr_add, Nat.zero_add, p1, ha, c3, e1, km, e2, e3, t0, kl, hw, obs, asP_pointer, asB_bool, asI_int, asS_string, asSl_slice, asM_map, asTup0, asTup1, asTup2, asTup3, asTup4, asTup5, asTup6, asTup7, asTup8, asTup9, asAgg2, asAgg3, asAgg4, asAgg5, asAgg6, asAgg7, asAgg8, asAgg9, asAgg12, getD0, getD1, getD2, getD3, getD4, getD5, getD6, getD7, getD8, getD9, getD10, getD11, getD12, getD13, getD14, getD15, getD16, getD17, getD18, getD19, Bool.not_true, Bool.not_false, Bool.false_eq_true, Bool.true_eq_false, ↓reduceIte, decide_true, decide_false, Option.isNone_some, Option.isNone_none, Option.isSome_some, Option.isSome_none, beq_self_eq_true, bne_self_eq_false, Bool.and_true, Bool.true_and, Bool.and_false, Bool.false_and, not_true_eq_false, not_false_eq_true]
      · unfold fenceV; rw [if_pos hm, if_neg hld, hany]; rfl

theorem fence38 (h : Raw w D b c nq pq ns es next count) {n : Nat} (hn : n < ns.length) (hnm : ∀ e ∈ es, Names ns e.v.isr) (hel : es.length ≤ 1000) :
    ∃ D' es' w', callF Try.prog 38 #[.pointer (some ⟨b, 0, none⟩), .int .i64 (n : Int)] w = some (.int .i64 (if ns[n].al then 0 else 4), w') ∧
      Raw w' D' b c nq pq (if ns[n].al then ns.set n { ns[n] with al := false } else ns) es' next count ∧ es'.map (·.v) = (if ns[n].al then (es.map (·.v)).map (fenceV (ns.set n { ns[n] with al := false }) (n : Int)) else es.map (·.v)) ∧ Chg D w w' D' := by
  have fa : Fr [] w (w.alloc (.cells #[.pointer (some ⟨b, 0, none⟩)] 23)) := Fr.alloc _
  have ba : Blk (w.alloc (.cells #[.pointer (some ⟨b, 0, none⟩)] 23)) w.heap.size [.pointer (some ⟨b, 0, none⟩)] 23 := Blk.new w [.pointer (some ⟨b, 0, none⟩)] 23
  obtain ⟨w1, hw1⟩ : ∃ w1, w.alloc (.cells #[.pointer (some ⟨b, 0, none⟩)] 23) = w1 := ⟨_, rfl⟩
  rw [hw1] at fa ba
  have h1 := h.fr fa (by simp)
  have z0 : w1.cell? ⟨w.heap.size, 0, none⟩ = some (.pointer (some ⟨b, 0, none⟩)) := ba.cell 0
  have c0 : w1.cell? ⟨b, 0, none⟩ = some (.slice nq.1 nq.2.1 nq.2.2) := h1.tbl.cell 0
  obtain ⟨a, i1, r0, _, _⟩ := h1.node_at hn
  have hcd : ¬ D w.heap.size := fun hd => by have := h.lt _ hd; omega
  cases hal : ns[n].al with
  | false =>
    rw [hal] at r0
    refine ⟨D, es, w1, g38_call ?_, by simpa using h1, by simp, chg_fr fa (Chg.refl _ _)⟩
    unfold g38
    simp only [hw1, z0, c0, i1, r0, obs, asP_pointer, asB_bool, asI_int, asS_string, asSl_slice, asM_map, asTup0, asTup1, asTup2, asTup3, asTup4, asTup5, asTup6, asTup7, asTup8, asTup9, asAgg2, asAgg3, asAgg4, asAgg5, asAgg6, asAgg7, asAgg8, asAgg9, asAgg12, getD0, getD1, getD2, getD3, getD4, getD5, getD6, getD7, getD8, getD9, getD10, getD11, getD12, getD13, getD14, getD15, getD16, getD17, getD18, getD19, Bool.not_true, Bool.not_false, Bool.false_eq_true, Bool.true_eq_false, ↓reduceIte, decide_true, decide_false, Option.isNone_some, Option.isNone_none, Option.isSome_some, Option.isSome_none, beq_self_eq_true, bne_self_eq_false, Bool.and_true, Bool.true_and, Bool.and_false, Bool.false_and, not_true_eq_false, not_false_eq_true]
  | true =>
    rw [hal] at r0
    obtain ⟨a1, w2, j1, s1, R2, f2⟩ := h1.setN hn (j := 0) (by decide) { ns[n] with al := false } (.bool false) rfl rfl
    rw [i1] at j1
    cases j1
    have s1' : st1 w1 a (.bool false) = some w2 := by
      have : Addr.add a 0 = a := by unfold Addr.add; simp
      rw [this] at s1; exact s1
    obtain ⟨ns', hns'⟩ : ∃ ns', ns.set n { ns[n] with al := false } = ns' := ⟨_, rfl⟩
    rw [hns'] at R2 ⊢
    have hnl : ns'.length = ns.length := by rw [← hns']; simp
    have hnm' : ∀ e ∈ es, Names ns' e.v.isr := fun e he x hx => by rw [hnl]; exact hnm e he x hx
    have ba2 := ba.fr f2 (fun hm => hcd (h.rn _ hm))
    have z2 : w2.cell? ⟨w.heap.size, 0, none⟩ = some (.pointer (some ⟨b, 0, none⟩)) := ba2.cell 0
    have p1 : w2.cell? ⟨b, 1, none⟩ = some (.slice pq.1 pq.2.1 pq.2.2) := R2.tbl.cell 1
    have hpl := R2.plen
    have hz1 := ba2.lt
    obtain ⟨t, w3, g1, rfl, D', es', R3, hl3, hb3, _, C3⟩ := loopS_countX 0 (b := g38_l22_b pq w (n : Int)) (n := es.length)
      (I := fun k s x => s = (k : Int) ∧ ∃ D' es', Raw x D' b c nq pq ns' es' next count ∧ es'.length = es.length ∧ (∀ i (hi : i < es.length) (hi' : i < es'.length), i < k → es'[i].v = fenceV ns' (n : Int) es[i].v) ∧ (∀ i (hi : i < es.length) (hi' : i < es'.length), k ≤ i → es'[i] = es[i]) ∧ Chg D w2 x D')
      (fun k s x hk ⟨hs, D', es', R, hl, hb, hr, C⟩ => by
        subst hs
        have hk' : k < es'.length := by omega
        have hek := hr k hk hk' (Nat.le_refl _)
        have Rk : Raw x D' b c nq pq ns' (es'.set k es[k]) next count := by rw [← hek, List.set_getElem_self]; exact R
        obtain ⟨S, fS, hS⟩ := C.fr
        have zx : x.cell? ⟨w.heap.size, 0, none⟩ = some (.pointer (some ⟨b, 0, none⟩)) := (ba2.fr fS (fun hm => hcd (hS _ hm))).cell 0
        have hcx : ¬ D' w.heap.size := fun hd => by
          rcases C.new _ hd with hh | hh
          · exact hcd hh
          · omega
        obtain ⟨D2, e2, x2, e, hv, R', C'⟩ := fence_round (w0 := w) (n := (n : Int)) Rk hk' zx hcx (hnm' _ (List.getElem_mem hk)) (by omega)
        refine ⟨_, x2, e, rfl, D2, es'.set k e2, R', by simpa using hl, fun i hi hi' hik => ?_, fun i hi hi' hik => ?_, C.trans C' (fun y hy => R2.lt y hy)⟩
        · rw [List.getElem_set]
          split
          · rename_i he; subst he; exact hv
          · exact hb i hi (by simpa using hi') (by omega)
        · rw [List.getElem_set]
          split
          · omega
          · exact hr i hi (by simpa using hi') (by omega))
      (fun s x ⟨hs, _⟩ => by
        subst hs
        unfold g38_l22_b
        have k0 : decide ((es.length : Int) < (pq.2.1 : Int)) = false := by simp; omega
        simp only [k0, Bool.false_eq_true, if_false]) (k := 0) (s := 0) (w := w2) (Nat.zero_le _) ⟨rfl, D, es, R2, rfl, fun i hi hi' hik => absurd hik (by omega), fun i hi hi' _ => rfl, Chg.refl _ _⟩
    refine ⟨D', es', w3, g38_call ?_, by simpa using R3, ?_, chg_fr2 (fa.app f2) (fun y hy _ => by simp at hy; exact h.rn y hy) C3⟩
    · unfold g38
      simp only [hw1, z0, c0, i1, r0, s1', z2, addr_add, Nat.zero_add, p1, obs, asP_pointer, asB_bool, asI_int, asS_string, asSl_slice, asM_map, asTup0, asTup1, asTup2, asTup3, asTup4, asTup5, asTup6, asTup7, asTup8, asTup9, asAgg2, asAgg3, asAgg4, asAgg5, asAgg6, asAgg7, asAgg8, asAgg9, asAgg12, getD0, getD1, getD2, getD3, getD4, getD5, getD6, getD7, getD8, getD9, getD10, getD11, getD12, getD13, getD14, getD15, getD16, getD17, getD18, getD19, Bool.not_true, Bool.not_false, Bool.false_eq_true, Bool.true_eq_false, ↓reduceIte, decide_true, decide_false, Option.isNone_some, Option.isNone_none, Option.isSome_some, Option.isSome_none, beq_self_eq_true, bne_self_eq_false, Bool.and_true, Bool.true_and, Bool.and_false, Bool.false_and, not_true_eq_false, not_false_eq_true]
      rw [g38_l22_x0_of g1, g38_l22_x0]
    · simp only [if_true]
      apply List.ext_getElem
      · simp [hl3]
      · intro i h1 h2
        simp only [List.length_map] at h1 h2
        simp only [List.getElem_map]
        exact hb3 i h2 h1 h2
end
end Go.Proofs.Ytjcenfgmpbeldaa

namespace Go.Proofs.Ytjcenfgmpbeldaa
open Go Go.Ev
set_option maxRecDepth 100000
set_option linter.unusedVariables false
set_option linter.unusedSimpArgs false

/-- what an image tells -/
structure IM where
  ns : List NV
  vs : List PV
  next : Int
  count : Int

def partI (ns : List NV) (x : CV) (v : PV) : PV × Int := if x.k = 3 then isrV ns x v else moveV ns x v
/-- a command, in plain numbers -/
def applyI (m : IM) (x : CV) : IM × Int :=
  if x.k = 1 ∨ x.k = 2 ∨ x.k = 5 then
    if x.nd < 0 ∨ (m.ns.length : Int) ≤ x.nd then ({ m with count := IntKind.i64.wrap (m.count + 1) }, 1)
    else if x.k = 1 then
      if x.ep ≤ (m.ns.getD x.nd.toNat nv0).cm then ({ m with count := IntKind.i64.wrap (m.count + 1) }, 5)
      else ({ ns := m.ns.set x.nd.toNat { m.ns.getD x.nd.toNat nv0 with al := true, cm := x.ep }, vs := m.vs.map (joinV (m.ns.set x.nd.toNat { m.ns.getD x.nd.toNat nv0 with al := true, cm := x.ep }) x.nd), next := m.next, count := IntKind.i64.wrap (m.count + 1) }, 0)
    else if x.k = 2 then
      if (m.ns.getD x.nd.toNat nv0).al then ({ ns := m.ns.set x.nd.toNat { m.ns.getD x.nd.toNat nv0 with al := false }, vs := m.vs.map (fenceV (m.ns.set x.nd.toNat { m.ns.getD x.nd.toNat nv0 with al := false }) x.nd), next := m.next, count := IntKind.i64.wrap (m.count + 1) }, 0)
      else ({ m with count := IntKind.i64.wrap (m.count + 1) }, 4)
    else
      if 1001 - m.next < 10 then ({ m with count := IntKind.i64.wrap (m.count + 1) }, 17)
      else ({ ns := m.ns.set x.nd.toNat { m.ns.getD x.nd.toNat nv0 with bk := m.next }, vs := m.vs, next := m.next + 10, count := IntKind.i64.wrap (m.count + 1) }, 0)
  else if x.k = 3 ∨ x.k = 4 then
    if x.pt < 0 ∨ (m.vs.length : Int) ≤ x.pt then ({ m with count := IntKind.i64.wrap (m.count + 1) }, 1)
    else ({ m with vs := m.vs.set x.pt.toNat (partI m.ns x (m.vs.getD x.pt.toNat pv0)).1, count := IntKind.i64.wrap (m.count + 1) }, (partI m.ns x (m.vs.getD x.pt.toNat pv0)).2)
  else ({ m with count := IntKind.i64.wrap (m.count + 1) }, 1)

/-- an image in memory that tells m -/
def Img (w : World) (D : Nat → Prop) (b : Nat) (m : IM) : Prop := ∃ c nq pq es, Raw w D b c nq pq m.ns es m.next m.count ∧ es.map (·.v) = m.vs
theorem Img.fr {w w' : World} {D : Nat → Prop} {b : Nat} {m : IM} {S : List Nat} (h : Img w D b m) (hf : Fr S w w') (hS : ∀ y ∈ S, y < w.heap.size → ¬ D y) : Img w' D b m := by
  obtain ⟨c, nq, pq, es, h, hv⟩ := h; exact ⟨c, nq, pq, es, h.fr hf hS, hv⟩
theorem Img.lt {w : World} {D : Nat → Prop} {b : Nat} {m : IM} (h : Img w D b m) : ∀ y, D y → y < w.heap.size := by obtain ⟨c, nq, pq, es, h, hv⟩ := h; exact h.lt
/-- what Apply needs of an image -/
structure IOk (m : IM) : Prop where
  names : ∀ v ∈ m.vs, Names m.ns v.isr ∧ Names m.ns v.tgt
  nlen : m.ns.length ≤ 1000
  vlen : m.vs.length ≤ 1000
  next : 0 ≤ m.next ∧ m.next ≤ 1001

section
variable {w : World} {D : Nat → Prop} {b : Nat} {m : IM}

theorem getD_nat {α : Type} {l : List α} {i : Nat} (h : i < l.length) (d : α) : l.getD i d = l[i] := by simp [List.getD, h]

theorem apply13 (h : Img w D b m) (hm : IOk m) (x : CV) (q : Sh) (hu : SlI .i64 w q x.ls) (hqn : q.1 = none → q.2.1 = 0) (hl : x.ls.length ≤ 9223372036854775807) (hqD : 0 < q.2.1 → ∀ y ∈ blkOf q, ¬ D y) :
    ∃ D' w', callF Try.prog 13 #[.pointer (some ⟨b, 0, none⟩), x.arg q] w = some (.int .i64 (applyI m x).2, w') ∧ Img w' D' b (applyI m x).1 ∧ Chg D w w' D' := by
  obtain ⟨c, nq, pq, es, h, hv⟩ := h
  have hel : es.length = m.vs.length := by rw [← hv]; simp
  have hnm : ∀ e ∈ es, Names m.ns e.v.isr ∧ Names m.ns e.v.tgt := fun e he => hm.names e.v (by rw [← hv]; exact List.mem_map.mpr ⟨e, he, rfl⟩)
  have hnl := h.nlen
  have hpl := h.plen
  have hmn := hm.nlen
  have hmv := hm.vlen
  by_cases hk : x.k = 1 ∨ x.k = 2 ∨ x.k = 5
  · by_cases hr : x.nd < 0 ∨ (m.ns.length : Int) ≤ x.nd
    · -- there is no such node
      obtain ⟨w1, w5, hw1, c3, s5, R5, b5, f5, hz⟩ := apply_pre h x q
      have fd := Fr.drew [] w5
      have Rd := R5.fr fd (by simp)
      have bd := b5.fr fd (by simp)
      have k0 : w5.cell? ⟨w.heap.size, 0, none⟩ = some (.int .i64 x.k) := b5.cell 0
      have d1 : w5.drew.cell? ⟨w.heap.size, 1, none⟩ = some (.int .i64 x.nd) := bd.cell 1
      have p0 : w5.drew.cell? ⟨b, 0, none⟩ = some (.slice nq.1 nq.2.1 nq.2.2) := Rd.tbl.cell 0
      have ha : applyI m x = ({ m with count := IntKind.i64.wrap (m.count + 1) }, 1) := by unfold applyI; rw [if_pos hk, if_pos hr]
      rw [ha]
      refine ⟨D, w5.drew, g13_call ?_, ⟨c, nq, pq, es, Rd, hv⟩, chg_fr2 f5 (fun y hy _ => by simp at hy; subst hy; exact h.rb) (chg_fr fd (Chg.refl _ _))⟩
      have hj : g13_j9 w5 w (some ⟨b, 0, none⟩) x.k true = some (.int .i64 1, w5.drew) := by
        unfold g13_j9
        by_cases h0 : x.nd < 0
        · have q2 : decide (x.nd < 0) = true := by simp [h0]
          simp only [addr_add, Nat.zero_add, d1, q2, obs, asP_pointer, asB_bool, asI_int, asS_string, asSl_slice, asM_map, asTup0, asTup1, asTup2, asTup3, asTup4, asTup5, asTup6, asTup7, asTup8, asTup9, asAgg2, asAgg3, asAgg4, asAgg5, asAgg6, asAgg7, asAgg8, asAgg9, asAgg12, getD0, getD1, getD2, getD3, getD4, getD5, getD6, getD7, getD8, getD9, getD10, getD11, getD12, getD13, getD14, getD15, getD16, getD17, getD18, getD19, Bool.not_true, Bool.not_false, Bool.false_eq_true, Bool.true_eq_false, ↓reduceIte, decide_true, decide_false, Option.isNone_some, Option.isNone_none, Option.isSome_some, Option.isSome_none, beq_self_eq_true, bne_self_eq_false, Bool.and_true, Bool.true_and, Bool.and_false, Bool.false_and, not_true_eq_false, not_false_eq_true]
        · have q2 : decide (x.nd < 0) = false := by simp; omega
          have q3 : decide (x.nd ≥ (nq.2.1 : Int)) = true := by simp; omega
          simp only [addr_add, Nat.zero_add, d1, q2, p0, q3, obs, asP_pointer, asB_bool, asI_int, asS_string, asSl_slice, asM_map, asTup0, asTup1, asTup2, asTup3, asTup4, asTup5, asTup6, asTup7, asTup8, asTup9, asAgg2, asAgg3, asAgg4, asAgg5, asAgg6, asAgg7, asAgg8, asAgg9, asAgg12, getD0, getD1, getD2, getD3, getD4, getD5, getD6, getD7, getD8, getD9, getD10, getD11, getD12, getD13, getD14, getD15, getD16, getD17, getD18, getD19, Bool.not_true, Bool.not_false, Bool.false_eq_true, Bool.true_eq_false, ↓reduceIte, decide_true, decide_false, Option.isNone_some, Option.isNone_none, Option.isSome_some, Option.isSome_none, beq_self_eq_true, bne_self_eq_false, Bool.and_true, Bool.true_and, Bool.and_false, Bool.false_and, not_true_eq_false, not_false_eq_true]
      unfold g13
      rcases hk with hk | hk | hk
      · have q1 : (x.k == 1) = true := by simp [hk]
        simp only [hw1, addr_add, Nat.zero_add, c3, s5, k0, q1, hj, obs, asP_pointer, asB_bool, asI_int, asS_string, asSl_slice, asM_map, asTup0, asTup1, asTup2, asTup3, asTup4, asTup5, asTup6, asTup7, asTup8, asTup9, asAgg2, asAgg3, asAgg4, asAgg5, asAgg6, asAgg7, asAgg8, asAgg9, asAgg12, getD0, getD1, getD2, getD3, getD4, getD5, getD6, getD7, getD8, getD9, getD10, getD11, getD12, getD13, getD14, getD15, getD16, getD17, getD18, getD19, Bool.not_true, Bool.not_false, Bool.false_eq_true, Bool.true_eq_false, ↓reduceIte, decide_true, decide_false, Option.isNone_some, Option.isNone_none, Option.isSome_some, Option.isSome_none, beq_self_eq_true, bne_self_eq_false, Bool.and_true, Bool.true_and, Bool.and_false, Bool.false_and, not_true_eq_false, not_false_eq_true]
      · have q1 : (x.k == 1) = false := by simp [hk]
        have q12 : (x.k == 2) = true := by simp [hk]
        simp only [hw1, addr_add, Nat.zero_add, c3, s5, k0, q1, q12, hj, obs, asP_pointer, asB_bool, asI_int, asS_string, asSl_slice, asM_map, asTup0, asTup1, asTup2, asTup3, asTup4, asTup5, asTup6, asTup7, asTup8, asTup9, asAgg2, asAgg3, asAgg4, asAgg5, asAgg6, asAgg7, asAgg8, asAgg9, asAgg12, getD0, getD1, getD2, getD3, getD4, getD5, getD6, getD7, getD8, getD9, getD10, getD11, getD12, getD13, getD14, getD15, getD16, getD17, getD18, getD19, Bool.not_true, Bool.not_false, Bool.false_eq_true, Bool.true_eq_false, ↓reduceIte, decide_true, decide_false, Option.isNone_some, Option.isNone_none, Option.isSome_some, Option.isSome_none, beq_self_eq_true, bne_self_eq_false, Bool.and_true, Bool.true_and, Bool.and_false, Bool.false_and, not_true_eq_false, not_false_eq_true]
      · have q1 : (x.k == 1) = false := by simp [hk]
        have q12 : (x.k == 2) = false := by simp [hk]
        have q15 : (x.k == 5) = true := by simp [hk]
        simp only [hw1, addr_add, Nat.zero_add, c3, s5, k0, q1, q12, q15, hj, obs, asP_pointer, asB_bool, asI_int, asS_string, asSl_slice, asM_map, asTup0, asTup1, asTup2, asTup3, asTup4, asTup5, asTup6, asTup7, asTup8, asTup9, asAgg2, asAgg3, asAgg4, asAgg5, asAgg6, asAgg7, asAgg8, asAgg9, asAgg12, getD0, getD1, getD2, getD3, getD4, getD5, getD6, getD7, getD8, getD9, getD10, getD11, getD12, getD13, getD14, getD15, getD16, getD17, getD18, getD19, Bool.not_true, Bool.not_false, Bool.false_eq_true, Bool.true_eq_false, ↓reduceIte, decide_true, decide_false, Option.isNone_some, Option.isNone_none, Option.isSome_some, Option.isSome_none, beq_self_eq_true, bne_self_eq_false, Bool.and_true, Bool.true_and, Bool.and_false, Bool.false_and, not_true_eq_false, not_false_eq_true]
    · obtain ⟨n, hn⟩ : ∃ n : Nat, x.nd = (n : Int) := ⟨x.nd.toNat, by omega⟩
      have hnn : n < m.ns.length := by omega
      have ht : x.nd.toNat = n := by omega
      have hgd : m.ns.getD n nv0 = m.ns[n] := getD_nat hnn _
      have hap : applyI m x = (if x.k = 1 then
          if x.ep ≤ m.ns[n].cm then ({ m with count := IntKind.i64.wrap (m.count + 1) }, 5)
          else ({ ns := m.ns.set n { m.ns[n] with al := true, cm := x.ep }, vs := m.vs.map (joinV (m.ns.set n { m.ns[n] with al := true, cm := x.ep }) (n : Int)), next := m.next, count := IntKind.i64.wrap (m.count + 1) }, 0)
        else if x.k = 2 then
          if m.ns[n].al then ({ ns := m.ns.set n { m.ns[n] with al := false }, vs := m.vs.map (fenceV (m.ns.set n { m.ns[n] with al := false }) (n : Int)), next := m.next, count := IntKind.i64.wrap (m.count + 1) }, 0)
          else ({ m with count := IntKind.i64.wrap (m.count + 1) }, 4)
        else
          if 1001 - m.next < 10 then ({ m with count := IntKind.i64.wrap (m.count + 1) }, 17)
          else ({ ns := m.ns.set n { m.ns[n] with bk := m.next }, vs := m.vs, next := m.next + 10, count := IntKind.i64.wrap (m.count + 1) }, 0)) := by
        unfold applyI
        rw [if_pos hk, if_neg hr, ht, hgd, hn]
      rw [hap]
      by_cases h1 : x.k = 1
      · rw [if_pos h1]
        obtain ⟨w', e, R, S, fS, hS⟩ := apply_join h x q h1 hnn hn (fun e he => (hnm e he).1) (by omega)
        have C : Chg D w w' D := chgP fS (fun y hy _ => hS y hy) (fun _ => id) (fun y hy => .inl hy)
        by_cases h2 : x.ep ≤ m.ns[n].cm
        · simp only [h2, if_true] at e R ⊢
          exact ⟨D, w', e, ⟨c, nq, pq, es, R, hv⟩, C⟩
        · simp only [h2, if_false] at e R ⊢
          refine ⟨D, w', e, ⟨c, nq, pq, _, R, ?_⟩, C⟩
          rw [← hv, List.map_map, List.map_map]
          rfl
      · rw [if_neg h1]
        by_cases h2 : x.k = 2
        · rw [if_pos h2]
          obtain ⟨w1, w5, hw1, c3, s5, R5, b5, f5, hz⟩ := apply_pre h x q
          have fd := Fr.drew [] w5
          have Rd := R5.fr fd (by simp)
          have bd := b5.fr fd (by simp)
          obtain ⟨D6, es6, w6, e6, R6, hv6, C6⟩ := fence38 Rd hnn (fun e he => (hnm e he).1) (by omega)
          have k0 : w5.cell? ⟨w.heap.size, 0, none⟩ = some (.int .i64 x.k) := b5.cell 0
          have d0 : w5.drew.cell? ⟨w.heap.size, 0, none⟩ = some (.int .i64 x.k) := bd.cell 0
          have d1 : w5.drew.cell? ⟨w.heap.size, 1, none⟩ = some (.int .i64 x.nd) := bd.cell 1
          have p0 : w5.drew.cell? ⟨b, 0, none⟩ = some (.slice nq.1 nq.2.1 nq.2.2) := Rd.tbl.cell 0
          have q1 : (x.k == 1) = false := by simp [h2]
          have q12 : (x.k == 2) = true := by simp [h2]
          have q2 : decide (x.nd < 0) = false := by simp; omega
          have q3 : decide (x.nd ≥ (nq.2.1 : Int)) = false := by simp; omega
          rw [← hn] at e6
          have e13 : callF Try.prog 13 #[.pointer (some ⟨b, 0, none⟩), x.arg q] w = some (.int .i64 (if m.ns[n].al then 0 else 4), w6) := by
            refine g13_call ?_
            unfold g13
            simp only [hw1, addr_add, Nat.zero_add, c3, s5, k0, q1, q12, g13_j9, d1, q2, p0, q3, g13_j6, d0, e6, obs, asP_pointer, asB_bool, asI_int, asS_string, asSl_slice, asM_map, asTup0, asTup1, asTup2, asTup3, asTup4, asTup5, asTup6, asTup7, asTup8, asTup9, asAgg2, asAgg3, asAgg4, asAgg5, asAgg6, asAgg7, asAgg8, asAgg9, asAgg12, getD0, getD1, getD2, getD3, getD4, getD5, getD6, getD7, getD8, getD9, getD10, getD11, getD12, getD13, getD14, getD15, getD16, getD17, getD18, getD19, Bool.not_true, Bool.not_false, Bool.false_eq_true, Bool.true_eq_false, ↓reduceIte, decide_true, decide_false, Option.isNone_some, Option.isNone_none, Option.isSome_some, Option.isSome_none, beq_self_eq_true, bne_self_eq_false, Bool.and_true, Bool.true_and, Bool.and_false, Bool.false_and, not_true_eq_false, not_false_eq_true]
          have C : Chg D w w6 D6 := chg_fr2 f5 (fun y hy _ => by simp at hy; subst hy; exact h.rb) (chg_fr fd C6)
          rw [hv] at hv6
          cases hal : m.ns[n].al with
          | true =>
            simp only [hal, if_true] at e13 R6 hv6 ⊢
            exact ⟨D6, w6, e13, ⟨c, nq, pq, es6, R6, hv6⟩, C⟩
          | false =>
            simp only [hal, Bool.false_eq_true, if_false] at e13 R6 hv6 ⊢
            exact ⟨D6, w6, e13, ⟨c, nq, pq, es6, R6, hv6⟩, C⟩
        · rw [if_neg h2]
          have h5 : x.k = 5 := by rcases hk with hh | hh | hh; exact absurd hh h1; exact absurd hh h2; exact hh
          obtain ⟨w', e, R, S, fS, hS⟩ := apply_block h x q h5 hnn hn hm.next
          have C : Chg D w w' D := chgP fS (fun y hy _ => hS y hy) (fun _ => id) (fun y hy => .inl hy)
          by_cases h3 : 1001 - m.next < 10
          · simp only [h3, if_true] at e R ⊢
            exact ⟨D, w', e, ⟨c, nq, pq, es, R, hv⟩, C⟩
          · simp only [h3, if_false] at e R ⊢
            exact ⟨D, w', e, ⟨c, nq, pq, es, R, hv⟩, C⟩
  · have z1 : (x.k == 1) = false := by have : ¬ x.k = 1 := fun e => hk (.inl e); simp [this]
    have z2 : (x.k == 2) = false := by have : ¬ x.k = 2 := fun e => hk (.inr (.inl e)); simp [this]
    have z5 : (x.k == 5) = false := by have : ¬ x.k = 5 := fun e => hk (.inr (.inr e)); simp [this]
    obtain ⟨w1, w5, hw1, c3, s5, R5, b5, f5, hz⟩ := apply_pre h x q
    have k0 : w5.cell? ⟨w.heap.size, 0, none⟩ = some (.int .i64 x.k) := b5.cell 0
    have fb : ∀ y ∈ [b], y < w.heap.size → D y := fun y hy _ => by simp at hy; subst hy; exact h.rb
    by_cases h34 : x.k = 3 ∨ x.k = 4
    · have fd := Fr.drew [] w5
      have Rd := R5.fr fd (by simp)
      have bd := b5.fr fd (by simp)
      have d0 : w5.drew.cell? ⟨w.heap.size, 0, none⟩ = some (.int .i64 x.k) := bd.cell 0
      have d2 : w5.drew.cell? ⟨w.heap.size, 2, none⟩ = some (.int .i64 x.pt) := bd.cell 2
      have p1 : w5.drew.cell? ⟨b, 1, none⟩ = some (.slice pq.1 pq.2.1 pq.2.2) := Rd.tbl.cell 1
      have beg : ∀ r, g13_j19 w5 w (some ⟨b, 0, none⟩) true = some r → callF Try.prog 13 #[.pointer (some ⟨b, 0, none⟩), x.arg q] w = some r := by
        intro r hr
        refine g13_call ?_
        unfold g13
        rcases h34 with h3 | h4
        · have q3 : (x.k == 3) = true := by simp [h3]
          simp only [hw1, addr_add, Nat.zero_add, c3, s5, k0, z1, z2, z5, g13_j9, q3, obs, asP_pointer, asB_bool, asI_int, asS_string, asSl_slice, asM_map, asTup0, asTup1, asTup2, asTup3, asTup4, asTup5, asTup6, asTup7, asTup8, asTup9, asAgg2, asAgg3, asAgg4, asAgg5, asAgg6, asAgg7, asAgg8, asAgg9, asAgg12, getD0, getD1, getD2, getD3, getD4, getD5, getD6, getD7, getD8, getD9, getD10, getD11, getD12, getD13, getD14, getD15, getD16, getD17, getD18, getD19, Bool.not_true, Bool.not_false, Bool.false_eq_true, Bool.true_eq_false, ↓reduceIte, decide_true, decide_false, Option.isNone_some, Option.isNone_none, Option.isSome_some, Option.isSome_none, beq_self_eq_true, bne_self_eq_false, Bool.and_true, Bool.true_and, Bool.and_false, Bool.false_and, not_true_eq_false, not_false_eq_true]
          exact hr
        · have q3 : (x.k == 3) = false := by simp [h4]
          have q4 : (x.k == 4) = true := by simp [h4]
          simp only [hw1, addr_add, Nat.zero_add, c3, s5, k0, z1, z2, z5, g13_j9, q3, q4, obs, asP_pointer, asB_bool, asI_int, asS_string, asSl_slice, asM_map, asTup0, asTup1, asTup2, asTup3, asTup4, asTup5, asTup6, asTup7, asTup8, asTup9, asAgg2, asAgg3, asAgg4, asAgg5, asAgg6, asAgg7, asAgg8, asAgg9, asAgg12, getD0, getD1, getD2, getD3, getD4, getD5, getD6, getD7, getD8, getD9, getD10, getD11, getD12, getD13, getD14, getD15, getD16, getD17, getD18, getD19, Bool.not_true, Bool.not_false, Bool.false_eq_true, Bool.true_eq_false, ↓reduceIte, decide_true, decide_false, Option.isNone_some, Option.isNone_none, Option.isSome_some, Option.isSome_none, beq_self_eq_true, bne_self_eq_false, Bool.and_true, Bool.true_and, Bool.and_false, Bool.false_and, not_true_eq_false, not_false_eq_true]
          exact hr
      by_cases hr : x.pt < 0 ∨ (m.vs.length : Int) ≤ x.pt
      · have ha : applyI m x = ({ m with count := IntKind.i64.wrap (m.count + 1) }, 1) := by unfold applyI; rw [if_neg hk, if_pos h34, if_pos hr]
        rw [ha]
        refine ⟨D, w5.drew, beg _ ?_, ⟨c, nq, pq, es, Rd, hv⟩, chg_fr2 f5 fb (chg_fr fd (Chg.refl _ _))⟩
        unfold g13_j19
        by_cases h0 : x.pt < 0
        · have q2 : decide (x.pt < 0) = true := by simp [h0]
          simp only [addr_add, Nat.zero_add, d2, q2, obs, asP_pointer, asB_bool, asI_int, asS_string, asSl_slice, asM_map, asTup0, asTup1, asTup2, asTup3, asTup4, asTup5, asTup6, asTup7, asTup8, asTup9, asAgg2, asAgg3, asAgg4, asAgg5, asAgg6, asAgg7, asAgg8, asAgg9, asAgg12, getD0, getD1, getD2, getD3, getD4, getD5, getD6, getD7, getD8, getD9, getD10, getD11, getD12, getD13, getD14, getD15, getD16, getD17, getD18, getD19, Bool.not_true, Bool.not_false, Bool.false_eq_true, Bool.true_eq_false, ↓reduceIte, decide_true, decide_false, Option.isNone_some, Option.isNone_none, Option.isSome_some, Option.isSome_none, beq_self_eq_true, bne_self_eq_false, Bool.and_true, Bool.true_and, Bool.and_false, Bool.false_and, not_true_eq_false, not_false_eq_true]
        · have q2 : decide (x.pt < 0) = false := by simp; omega
          have q3 : decide (x.pt ≥ (pq.2.1 : Int)) = true := by simp; omega
          simp only [addr_add, Nat.zero_add, d2, q2, p1, q3, obs, asP_pointer, asB_bool, asI_int, asS_string, asSl_slice, asM_map, asTup0, asTup1, asTup2, asTup3, asTup4, asTup5, asTup6, asTup7, asTup8, asTup9, asAgg2, asAgg3, asAgg4, asAgg5, asAgg6, asAgg7, asAgg8, asAgg9, asAgg12, getD0, getD1, getD2, getD3, getD4, getD5, getD6, getD7, getD8, getD9, getD10, getD11, getD12, getD13, getD14, getD15, getD16, getD17, getD18, getD19, Bool.not_true, Bool.not_false, Bool.false_eq_true, Bool.true_eq_false, ↓reduceIte, decide_true, decide_false, Option.isNone_some, Option.isNone_none, Option.isSome_some, Option.isSome_none, beq_self_eq_true, bne_self_eq_false, Bool.and_true, Bool.true_and, Bool.and_false, Bool.false_and, not_true_eq_false, not_false_eq_true]
      · obtain ⟨k, hkk⟩ : ∃ k : Nat, x.pt = (k : Int) := ⟨x.pt.toNat, by omega⟩
        have hkn : k < m.vs.length := by omega
        have hke : k < es.length := by omega
        have ht : x.pt.toNat = k := by omega
        have hev : m.vs.getD k pv0 = es[k].v := by rw [getD_nat hkn]; simp [← hv]
        have ha : applyI m x = ({ m with vs := m.vs.set k (partI m.ns x es[k].v).1, count := IntKind.i64.wrap (m.count + 1) }, (partI m.ns x es[k].v).2) := by
          unfold applyI; rw [if_neg hk, if_pos h34, if_neg hr, ht, hev]
        rw [ha]
        have q2 : decide (x.pt < 0) = false := by simp; omega
        have q3 : decide (x.pt ≥ (pq.2.1 : Int)) = false := by simp; omega
        have Fd : Fr [b] w w5.drew := (f5.app fd).mono (by intro y hy _; simpa using hy)
        have hud : SlI .i64 w5.drew q x.ls := hu.fr3 Fd (fun h0 y hy hm' => by simp at hm'; subst hm'; exact hqD h0 _ hy h.rb)
        have ld := bd.ldN (n := 6) rfl
        simp only [CV.cs] at ld
        have fin : ∀ D6 e6 w6, e6.v = (partI m.ns x es[k].v).1 → Raw w6 D6 b c nq pq m.ns (es.set k e6) m.next (IntKind.i64.wrap (m.count + 1)) → Chg D w5.drew w6 D6 → callF Try.prog 13 #[.pointer (some ⟨b, 0, none⟩), x.arg q] w = some (.int .i64 (partI m.ns x es[k].v).2, w6) →
            ∃ D' w', callF Try.prog 13 #[.pointer (some ⟨b, 0, none⟩), x.arg q] w = some (.int .i64 (partI m.ns x es[k].v).2, w') ∧ Img w' D' b { m with vs := m.vs.set k (partI m.ns x es[k].v).1, count := IntKind.i64.wrap (m.count + 1) } ∧ Chg D w w' D' := by
          intro D6 e6 w6 hv6 R6 C6 e13
          refine ⟨D6, w6, e13, ⟨c, nq, pq, _, R6, ?_⟩, chg_fr2 f5 fb (chg_fr fd C6)⟩
          rw [List.map_set, hv, hv6]
        by_cases h3 : x.k = 3
        · obtain ⟨D6, e6, w6, e39, hv6, R6, C6⟩ := isr39 Rd hke x q hkk hud hqn hl hmn (hnm _ (List.getElem_mem hke)).2
          have hp : partI m.ns x es[k].v = isrV m.ns x es[k].v := by unfold partI; rw [if_pos h3]
          rw [← hp] at e39 hv6
          simp only [CV.arg] at e39
          refine fin D6 e6 w6 hv6 R6 C6 (beg _ ?_)
          have r1 : (x.k == 1) = false := z1
          have r3 : (x.k == 3) = true := by simp [h3]
          unfold g13_j19
          simp only [addr_add, Nat.zero_add, d2, q2, p1, q3, g13_j6, d0, z1, z2, r3, ld, e39, obs, asP_pointer, asB_bool, asI_int, asS_string, asSl_slice, asM_map, asTup0, asTup1, asTup2, asTup3, asTup4, asTup5, asTup6, asTup7, asTup8, asTup9, asAgg2, asAgg3, asAgg4, asAgg5, asAgg6, asAgg7, asAgg8, asAgg9, asAgg12, getD0, getD1, getD2, getD3, getD4, getD5, getD6, getD7, getD8, getD9, getD10, getD11, getD12, getD13, getD14, getD15, getD16, getD17, getD18, getD19, Bool.not_true, Bool.not_false, Bool.false_eq_true, Bool.true_eq_false, ↓reduceIte, decide_true, decide_false, Option.isNone_some, Option.isNone_none, Option.isSome_some, Option.isSome_none, beq_self_eq_true, bne_self_eq_false, Bool.and_true, Bool.true_and, Bool.and_false, Bool.false_and, not_true_eq_false, not_false_eq_true]
        · obtain ⟨D6, e6, w6, e40, hv6, R6, C6⟩ := move40 Rd hke x q hkk hud hqn hl hmn
          have hp : partI m.ns x es[k].v = moveV m.ns x es[k].v := by unfold partI; rw [if_neg h3]
          rw [← hp] at e40 hv6
          simp only [CV.arg] at e40
          refine fin D6 e6 w6 hv6 R6 C6 (beg _ ?_)
          have r3 : (x.k == 3) = false := by simp [h3]
          have r4 : (x.k == 4) = true := by rcases h34 with hh | hh; exact absurd hh h3; simp [hh]
          unfold g13_j19
          simp only [addr_add, Nat.zero_add, d2, q2, p1, q3, g13_j6, d0, z1, z2, r3, r4, ld, e40, obs, asP_pointer, asB_bool, asI_int, asS_string, asSl_slice, asM_map, asTup0, asTup1, asTup2, asTup3, asTup4, asTup5, asTup6, asTup7, asTup8, asTup9, asAgg2, asAgg3, asAgg4, asAgg5, asAgg6, asAgg7, asAgg8, asAgg9, asAgg12, getD0, getD1, getD2, getD3, getD4, getD5, getD6, getD7, getD8, getD9, getD10, getD11, getD12, getD13, getD14, getD15, getD16, getD17, getD18, getD19, Bool.not_true, Bool.not_false, Bool.false_eq_true, Bool.true_eq_false, ↓reduceIte, decide_true, decide_false, Option.isNone_some, Option.isNone_none, Option.isSome_some, Option.isSome_none, beq_self_eq_true, bne_self_eq_false, Bool.and_true, Bool.true_and, Bool.and_false, Bool.false_and, not_true_eq_false, not_false_eq_true]
    · have ha : applyI m x = ({ m with count := IntKind.i64.wrap (m.count + 1) }, 1) := by unfold applyI; rw [if_neg hk, if_neg h34]
      rw [ha]
      have r3 : (x.k == 3) = false := by have : ¬ x.k = 3 := fun e => h34 (.inl e); simp [this]
      have r4 : (x.k == 4) = false := by have : ¬ x.k = 4 := fun e => h34 (.inr e); simp [this]
      refine ⟨D, w5, g13_call ?_, ⟨c, nq, pq, es, R5, hv⟩, chg_fr2 f5 fb (Chg.refl _ _)⟩
      unfold g13
      simp only [hw1, addr_add, Nat.zero_add, c3, s5, k0, z1, z2, z5, g13_j9, r3, r4, g13_j19, g13_j6, obs, asP_pointer, asB_bool, asI_int, asS_string, asSl_slice, asM_map, asTup0, asTup1, asTup2, asTup3, asTup4, asTup5, asTup6, asTup7, asTup8, asTup9, asAgg2, asAgg3, asAgg4, asAgg5, asAgg6, asAgg7, asAgg8, asAgg9, asAgg12, getD0, getD1, getD2, getD3, getD4, getD5, getD6, getD7, getD8, getD9, getD10, getD11, getD12, getD13, getD14, getD15, getD16, getD17, getD18, getD19, Bool.not_true, Bool.not_false, Bool.false_eq_true, Bool.true_eq_false, ↓reduceIte, decide_true, decide_false, Option.isNone_some, Option.isNone_none, Option.isSome_some, Option.isSome_none, beq_self_eq_true, bne_self_eq_false, Bool.and_true, Bool.true_and, Bool.and_false, Bool.false_and, not_true_eq_false, not_false_eq_true]
end
end Go.Proofs.Ytjcenfgmpbeldaa

namespace Go.Proofs.Ytjcenfgmpbeldaa
open Go Go.Ev
set_option maxRecDepth 100000
set_option linter.unusedVariables false
set_option linter.unusedSimpArgs false

def cv02 : CV := ⟨0, 0, 0, 0, 0, []⟩
theorem copyN2 {w : World} {u : Sh} {xs : List Int} (hu : SlI .i64 w u xs) (hl : xs.length ≤ 17592186043904) : ∃ v w', callB Try.prog .append #[28, 28] 28 #[false, false] #[.slice (some ⟨w.heap.size, 0, none⟩) 0 0, .slice u.1 u.2.1 u.2.2] (w.alloc (.cells #[] 3)) = some (.slice v.1 v.2.1 v.2.2, w') ∧ Own w' 3 1 v (intsV' xs) ∧ Fr [] w w' ∧ ∀ y ∈ blkOf v, w.heap.size ≤ y := by
  have hml : maxLen = 9223372036854775807 := by decide
  have hul := hu.1
  obtain ⟨v, w', e, o, f, n, _⟩ := app_empty t28 hu.slC (by intro y hy; obtain ⟨z, _, rfl⟩ := List.mem_map.mp hy; rfl) (by omega) (by omega) 28 #[false, false]
  exact ⟨v, w', e, o, f, n⟩
theorem cvcs_oc2 (r : CV) (q : Sh) : ∀ u ∈ r.cs q, u.oneCell' = true := by
  intro u hu
  simp only [CV.cs, List.mem_cons, List.not_mem_nil, or_false] at hu
  rcases hu with rfl | rfl | rfl | rfl | rfl | rfl <;> rfl
theorem zero332 (w : World) : Blk (w.alloc (.cells #[.int .i64 0, .int .i64 0, .int .i64 0, .int .i64 0, .int .i64 0, .slice none 0 0] 33)) w.heap.size (cv02.cs (none, 0, 0)) 33 ∧
    Fr [] w (w.alloc (.cells #[.int .i64 0, .int .i64 0, .int .i64 0, .int .i64 0, .int .i64 0, .slice none 0 0] 33)) := ⟨Blk.new w (cv02.cs (none, 0, 0)) 33, Fr.alloc _⟩
theorem retC2 {w x : World} {g : Nat} {cs : List Value} (hb : Blk x g cs 33) (hl : cs.length = 6) (hf : Fr [] w x) (hg : w.heap.size ≤ g) (r : CV) (q : Sh) :
    ∃ w', stL x ⟨g, 0, none⟩ [.int .i64 r.k, .int .i64 r.nd, .int .i64 r.pt, .int .i64 r.ep, .int .i64 r.vr, .slice q.1 q.2.1 q.2.2] 0 = some w' ∧
      ldN w' ⟨g, 0, none⟩ 0 6 = some [.int .i64 r.k, .int .i64 r.nd, .int .i64 r.pt, .int .i64 r.ep, .int .i64 r.vr, .slice q.1 q.2.1 q.2.2] ∧ Fr [] w w' ∧ Fr [g] x w' := by
  obtain ⟨w', h1, h2, h3⟩ := hb.stL (vs := r.cs q) (by rw [hl]; rfl) (cvcs_oc2 r q)
  exact ⟨w', h1, h2.ldN (n := 6) rfl, (hf.app h3).mono (by intro y hy hl; simp at hy; omega), h3⟩
theorem newC2 (x : World) (r : CV) (q : Sh) : ∃ x', stL (x.alloc (.cells #[.int .i64 0, .int .i64 0, .int .i64 0, .int .i64 0, .int .i64 0, .slice none 0 0] 33)) ⟨x.heap.size, 0, none⟩ [.int .i64 r.k, .int .i64 r.nd, .int .i64 r.pt, .int .i64 r.ep, .int .i64 r.vr, .slice q.1 q.2.1 q.2.2] 0 = some x' ∧
    Blk x' x.heap.size (r.cs q) 33 ∧ Fr [] x x' ∧ ldN x' ⟨x.heap.size, 0, none⟩ 0 6 = some [.int .i64 r.k, .int .i64 r.nd, .int .i64 r.pt, .int .i64 r.ep, .int .i64 r.vr, .slice q.1 q.2.1 q.2.2] := by
  obtain ⟨b, f⟩ := zero332 x
  obtain ⟨x', h1, h2, h3⟩ := b.stL (vs := r.cs q) rfl (cvcs_oc2 r q)
  exact ⟨x', h1, h2, (f.app h3).mono (by intro y hy hl; simp at hy; omega), h2.ldN (n := 6) rfl⟩


theorem own142 (w : World) (r : CV) {q : Sh} (hu : SlI .i64 w q r.ls) (hl : r.ls.length ≤ 17592186043904) : ∃ v w', callF Try.prog 14 #[r.arg q] w = some (r.arg v, w') ∧ Own w' 3 1 v (intsV' r.ls) ∧ Fr [] w w' ∧ ∀ y ∈ blkOf v, w.heap.size ≤ y := by
  have fa : Fr [] w (w.alloc (.cells #[.int .i64 r.k, .int .i64 r.nd, .int .i64 r.pt, .int .i64 r.ep, .int .i64 r.vr, .slice q.1 q.2.1 q.2.2] 33)) := Fr.alloc _
  have ba := Blk.new w (r.cs q) 33
  change Blk (w.alloc (.cells #[.int .i64 r.k, .int .i64 r.nd, .int .i64 r.pt, .int .i64 r.ep, .int .i64 r.vr, .slice q.1 q.2.1 q.2.2] 33)) _ _ _ at ba
  obtain ⟨w1, hw1⟩ : ∃ w1, w.alloc (.cells #[.int .i64 r.k, .int .i64 r.nd, .int .i64 r.pt, .int .i64 r.ep, .int .i64 r.vr, .slice q.1 q.2.1 q.2.2] 33) = w1 := ⟨_, rfl⟩
  rw [hw1] at fa ba
  obtain ⟨bz, fz⟩ := zero332 w1
  obtain ⟨w2, hw2⟩ : ∃ w2, w1.alloc (.cells #[.int .i64 0, .int .i64 0, .int .i64 0, .int .i64 0, .int .i64 0, .slice none 0 0] 33) = w2 := ⟨_, rfl⟩
  rw [hw2] at bz fz
  have F2 : Fr [] w w2 := (Fr.mono (Fr.app fa fz) (by have z0_ := Fr.size fa; have z1_ := Fr.size fz; intro y_ hy_ hl_; grind [blkOf]))
  obtain ⟨v, w3, e3, o3, f3, n3⟩ := copyN2 (hu.fr3 F2 (by simp)) hl
  have fe : Fr [] w2 (w2.alloc (.cells #[] 3)) := Fr.alloc _
  have c5 : (w2.alloc (.cells #[] 3)).cell? ⟨w.heap.size, 5, none⟩ = some (.slice q.1 q.2.1 q.2.2) := ((ba.fr fz (by simp)).fr fe (by simp)).cell 5
  have b3 := (ba.fr fz (by simp)).fr f3 (by simp)
  have z3 := bz.fr f3 (by simp)
  have z1 := fa.size
  have z2 := fz.size
  obtain ⟨w4, hw4⟩ : ∃ w4, w3.setCell ⟨w.heap.size, 5, none⟩ (.slice v.1 v.2.1 v.2.2) = w4 := ⟨_, rfl⟩
  have s4 : st1 w3 ⟨w.heap.size, 5, none⟩ (.slice v.1 v.2.1 v.2.2) = some w4 := by rw [← hw4]; exact b3.st1 (by simp [CV.cs]) rfl
  have b4 : Blk w4 w.heap.size (r.cs v) 33 := by rw [← hw4]; exact b3.set 5 _
  have f4 : Fr [w.heap.size] w3 w4 := by rw [← hw4]; exact Fr.setCell
  have l4 := b4.ldN (n := 6) rfl
  have lb := ba.lt
  have z4 := z3.fr f4 (by simp; omega)
  have F4 : Fr [] w w4 := ((Fr.mono (Fr.app F2 f3) (by have z0_ := Fr.size F2; have z1_ := Fr.size f3; intro y_ hy_ hl_; grind [blkOf])) : Fr [] w w3).app f4 |>.mono (by intro y hy hl; simp at hy; omega)
  obtain ⟨w', r1, r2, r3, r4⟩ := retC2 z4 rfl F4 z1 r v
  have o4 := (o3.fr f4 (by intro y hy hm; simp at hm; have := n3 y hy; omega)).fr r4 (by intro y hy hm; simp at hm; have := n3 y hy; have := bz.lt; omega)
  refine ⟨v, w', g14_call ?_, o4, r3, fun y hy => by have := n3 y hy; omega⟩
  unfold g14
  simp only [hw1, hw2]
  simp only [CV.cs] at l4
  simp only [addr_add, Nat.zero_add, c5, e3, s4, l4, r1, r2, obs, asP_pointer, asB_bool, asI_int, asS_string, asSl_slice, asM_map, asTup0, asTup1, asTup2, asTup3, asTup4, asTup5, asTup6, asTup7, asTup8, asTup9, asAgg2, asAgg3, asAgg4, asAgg5, asAgg6, asAgg7, asAgg8, asAgg9, asAgg12, getD0, getD1, getD2, getD3, getD4, getD5, getD6, getD7, getD8, getD9, getD10, getD11, getD12, getD13, getD14, getD15, getD16, getD17, getD18, getD19, Bool.not_true, Bool.not_false, Bool.false_eq_true, Bool.true_eq_false, ↓reduceIte, decide_true, decide_false, Option.isNone_some, Option.isNone_none, Option.isSome_some, Option.isSome_none, beq_self_eq_true, bne_self_eq_false, Bool.and_true, Bool.true_and, Bool.and_false, Bool.false_and, not_true_eq_false, not_false_eq_true]
  rfl

end Go.Proofs.Ytjcenfgmpbeldaa

namespace Go.Proofs.Ytjcenfgmpbeldaa
open Go Go.Ev
set_option linter.unusedVariables false
set_option linter.unusedSimpArgs false

/-- a partition as it may be, but for its leader -/
structure VP (ns : List NV) (te tv : Int) (v : PV) : Prop where
  si : sortedI ns.length v.isr
  sr : sortedI ns.length v.rep
  st : v.tgt = [] ∨ sortedI ns.length v.tgt
  sub : ∀ n ∈ v.isr, n ∈ v.rep ∨ n ∈ v.tgt
  ep : 0 ≤ v.ep ∧ v.ep ≤ te
  vr : 0 ≤ v.vr ∧ v.vr ≤ tv
structure VI (ns : List NV) (te tv : Int) (v : PV) : Prop extends VP ns te tv v where
  l0 : -1 ≤ v.ld
  l1 : 0 ≤ v.ld → v.ld ∈ v.isr ∧ aliveB ns v.ld = true
  l2 : v.ld < 0 → ∀ n ∈ v.isr, aliveB ns n = false
/-- what may become of a partition by one command -/
structure VR (v v' : PV) : Prop where
  ep : v.ep ≤ v'.ep
  vr : v.vr ≤ v'.vr
  ld : v'.ld ≠ v.ld → v'.ep ≠ v.ep
theorem VR.refl (v : PV) : VR v v := ⟨Int.le_refl _, Int.le_refl _, fun h => absurd rfl h⟩

section
variable {ns ns' : List NV} {te tv : Int} {v : PV}

theorem VP.mono {te' tv' : Int} (h : VP ns te tv v) (h1 : te ≤ te') (h2 : tv ≤ tv') : VP ns te' tv' v :=
  ⟨h.si, h.sr, h.st, h.sub, ⟨h.ep.1, by have := h.ep.2; omega⟩, ⟨h.vr.1, by have := h.vr.2; omega⟩⟩
theorem VI.mono {te' tv' : Int} (h : VI ns te tv v) (h1 : te ≤ te') (h2 : tv ≤ tv') : VI ns te' tv' v := ⟨h.toVP.mono h1 h2, h.l0, h.l1, h.l2⟩
theorem VP.len (h : VP ns te tv v) (hl : ns'.length = ns.length) : VP ns' te tv v := ⟨by rw [hl]; exact h.si, by rw [hl]; exact h.sr, by rw [hl]; exact h.st, h.sub, h.ep, h.vr⟩
theorem VP.names (h : VP ns te tv v) : Names ns v.isr ∧ Names ns v.tgt :=
  ⟨sortedI_names h.si rfl, by rcases h.st with ht | ht; rw [ht]; intro x hx; cases hx; exact sortedI_names ht rfl⟩

theorem ep_wrap (h : VP ns te tv v) (ht : te < 4611686018427387904) : IntKind.i64.wrap (v.ep + 1) = v.ep + 1 := by
  have := h.ep; exact wrap_i64 (by omega) (by omega)
theorem vr_wrap (h : VP ns te tv v) (ht : tv < 4611686018427387904) : IntKind.i64.wrap (v.vr + 1) = v.vr + 1 := by
  have := h.vr; exact wrap_i64 (by omega) (by omega)

theorem elect_vi (h : VP ns te tv v) (ht : te < 4611686018427387904) : VI ns (te + 1) tv (electV ns v) ∧ VR v (electV ns v) := by
  have hw := ep_wrap h ht
  have he := h.ep
  have hn := h.names.1
  refine ⟨⟨⟨h.si, h.sr, h.st, h.sub, ?_, h.vr⟩, ?_, ?_, ?_⟩, ⟨?_, Int.le_refl _, fun _ => ?_⟩⟩
  · show 0 ≤ IntKind.i64.wrap (v.ep + 1) ∧ IntKind.i64.wrap (v.ep + 1) ≤ te + 1
    rw [hw]; omega
  · show -1 ≤ (v.isr.find? (aliveB ns)).getD (-1)
    cases hf : v.isr.find? (aliveB ns) with
    | none => simp
    | some a => have := hn a (List.mem_of_find?_eq_some hf); simp; omega
  · show 0 ≤ (v.isr.find? (aliveB ns)).getD (-1) → (v.isr.find? (aliveB ns)).getD (-1) ∈ v.isr ∧ aliveB ns ((v.isr.find? (aliveB ns)).getD (-1)) = true
    cases hf : v.isr.find? (aliveB ns) with
    | none => intro h0; simp at h0
    | some a => intro _; exact ⟨List.mem_of_find?_eq_some hf, List.find?_some hf⟩
  · show (v.isr.find? (aliveB ns)).getD (-1) < 0 → ∀ n ∈ v.isr, aliveB ns n = false
    cases hf : v.isr.find? (aliveB ns) with
    | none => intro _ n hn'; rw [List.find?_eq_none] at hf; simpa using hf n hn'
    | some a => intro h0; have := hn a (List.mem_of_find?_eq_some hf); simp at h0; omega
  · show v.ep ≤ IntKind.i64.wrap (v.ep + 1)
    rw [hw]; omega
  · show IntKind.i64.wrap (v.ep + 1) ≠ v.ep
    rw [hw]; omega

theorem settle_vi (h : VI ns te tv v) (ht : te < 4611686018427387904) (hv : tv < 4611686018427387904) : VI ns (te + 1) (tv + 1) (settleV ns v) ∧ VR v (settleV ns v) := by
  unfold settleV
  by_cases h1 : v.tgt = []
  · rw [if_pos h1]; exact ⟨h.mono (by omega) (by omega), VR.refl _⟩
  rw [if_neg h1]
  by_cases h2 : ∀ n ∈ v.tgt, n ∈ v.isr
  case neg => rw [if_neg h2]; exact ⟨h.mono (by omega) (by omega), VR.refl _⟩
  rw [if_pos h2]
  have hw := vr_wrap h.toVP hv
  have hvr := h.vr
  have hst : sortedI ns.length v.tgt := by rcases h.st with hh | hh; exact absurd hh h1; exact hh
  have hp : VP ns te (tv + 1) { v with rep := v.tgt, isr := v.tgt, tgt := [], vr := IntKind.i64.wrap (v.vr + 1) } :=
    ⟨hst, hst, .inl rfl, fun n hn => .inl hn, h.ep, by show 0 ≤ IntKind.i64.wrap (v.vr + 1) ∧ IntKind.i64.wrap (v.vr + 1) ≤ tv + 1; rw [hw]; omega⟩
  by_cases h3 : v.ld ∈ v.tgt
  · rw [if_pos h3]
    have hl0 := (sortedI_names (ns := ns) hst rfl) _ h3
    refine ⟨⟨hp.mono (by omega) (Int.le_refl _), h.l0, fun h0 => ⟨h3, (h.l1 h0).2⟩, fun h0 => ?_⟩, ⟨Int.le_refl _, ?_, fun hh => absurd rfl hh⟩⟩
    · have h0' : v.ld < 0 := h0
      omega
    · show v.vr ≤ IntKind.i64.wrap (v.vr + 1)
      rw [hw]; omega
  · rw [if_neg h3]
    obtain ⟨e1, e2⟩ := elect_vi hp ht
    refine ⟨e1, ⟨e2.ep, ?_, fun _ => ?_⟩⟩
    · have : v.vr ≤ IntKind.i64.wrap (v.vr + 1) := by rw [hw]; omega
      exact this
    · show IntKind.i64.wrap (v.ep + 1) ≠ v.ep
      rw [ep_wrap h.toVP ht]; omega

theorem aliveB_set {n : Nat} (hn : n < ns.length) (nd : NV) {x : Int} (hx : 0 ≤ x) : aliveB (ns.set n nd) x = if x = (n : Int) then nd.al else aliveB ns x := by
  unfold aliveB
  rw [List.getElem?_set]
  by_cases h : x = (n : Int)
  · have : n = x.toNat := by omega
    rw [if_pos this, if_pos h, if_pos hn]
  · have : ¬ n = x.toNat := by omega
    rw [if_neg this, if_neg h]

theorem join_vi (h : VI ns te tv v) (ht : te < 4611686018427387904) {n : Nat} (hn : n < ns.length) (nd : NV) (hal : nd.al = true) :
    VI (ns.set n nd) (te + 1) tv (joinV (ns.set n nd) (n : Int) v) ∧ VR v (joinV (ns.set n nd) (n : Int) v) := by
  have hl : (ns.set n nd).length = ns.length := by simp
  have hp := h.toVP.len hl
  have hnm := h.names.1
  unfold joinV
  by_cases hc : v.ld = (n : Int) ∨ v.ld < 0 ∧ (n : Int) ∈ v.isr
  · rw [if_pos hc]; exact elect_vi hp ht
  · rw [if_neg hc]
    refine ⟨⟨hp.mono (by omega) (Int.le_refl _), h.l0, fun h0 => ⟨(h.l1 h0).1, ?_⟩, fun h0 x hx => ?_⟩, VR.refl _⟩
    · rw [aliveB_set hn nd h0]
      split
      · exact hal
      · exact (h.l1 h0).2
    · have := hnm x hx
      rw [aliveB_set hn nd this.1, if_neg (fun e => hc (.inr ⟨h0, by rw [← e]; exact hx⟩))]
      exact h.l2 h0 x hx

theorem without_mem {l : List Int} {n x : Int} : x ∈ without l n ↔ x ∈ l ∧ x ≠ n := by
  unfold without
  simp

theorem fence_vi (h : VI ns te tv v) (ht : te < 4611686018427387904) (htv : tv < 4611686018427387904) {n : Nat} (hn : n < ns.length) (nd : NV) (hal : nd.al = false) :
    VI (ns.set n nd) (te + 1) (tv + 1) (fenceV (ns.set n nd) (n : Int) v) ∧ VR v (fenceV (ns.set n nd) (n : Int) v) := by
  have hl : (ns.set n nd).length = ns.length := by simp
  have hp := h.toVP.len hl
  have hnm := h.names.1
  have hw := vr_wrap h.toVP htv
  have hvr := h.vr
  have hal' : ∀ x : Int, 0 ≤ x → aliveB (ns.set n nd) x = true → aliveB ns x = true ∧ x ≠ (n : Int) := by
    intro x hx hh
    rw [aliveB_set hn nd hx] at hh
    split at hh
    · rw [hal] at hh; cases hh
    · exact ⟨hh, ‹_›⟩
  have half : ∀ x : Int, 0 ≤ x → x ≠ (n : Int) → aliveB (ns.set n nd) x = aliveB ns x := fun x hx hne => by rw [aliveB_set hn nd hx, if_neg hne]
  have dead : ∀ x : Int, 0 ≤ x → aliveB ns x = false → aliveB (ns.set n nd) x = false := by
    intro x hx hh
    cases hc : aliveB (ns.set n nd) x with
    | false => rfl
    | true => rw [(hal' x hx hc).1] at hh; cases hh
  unfold fenceV
  by_cases hm : (n : Int) ∈ v.isr
  case neg =>
    rw [if_neg hm]
    refine ⟨⟨hp.mono (by omega) (by omega), h.l0, fun h0 => ⟨(h.l1 h0).1, ?_⟩, fun h0 x hx => dead x (hnm x hx).1 (h.l2 h0 x hx)⟩, VR.refl _⟩
    rw [half _ h0 (fun e => hm (e ▸ (h.l1 h0).1))]
    exact (h.l1 h0).2
  rw [if_pos hm]
  cases hany : (without v.isr (n : Int)).any (aliveB (ns.set n nd)) with
  | true =>
    rw [if_pos rfl]
    obtain ⟨a, ha, haa⟩ := List.any_eq_true.mp hany
    have hsr : sortedI (ns.set n nd).length (without v.isr (n : Int)) := by
      rw [hl]
      obtain ⟨h1, h2, h3⟩ := sortedI_iff.mp h.si
      exact sortedI_iff.mpr ⟨List.ne_nil_of_mem ha, fun y hy => h2 y (without_mem.mp hy).1, h3.filter _⟩
    have hp2 : VP (ns.set n nd) te (tv + 1) { v with isr := without v.isr (n : Int), vr := IntKind.i64.wrap (v.vr + 1) } :=
      ⟨hsr, hp.sr, hp.st, fun x hx => h.sub x (without_mem.mp hx).1, h.ep, by show 0 ≤ IntKind.i64.wrap (v.vr + 1) ∧ IntKind.i64.wrap (v.vr + 1) ≤ tv + 1; rw [hw]; omega⟩
    have hv1 : v.vr ≤ IntKind.i64.wrap (v.vr + 1) := by rw [hw]; omega
    by_cases hld : v.ld = (n : Int)
    · simp only [hld, if_true]
      rw [← hld]
      obtain ⟨e1, e2⟩ := elect_vi hp2 ht
      have hrw : ({ ld := v.ld, ep := v.ep, vr := IntKind.i64.wrap (v.vr + 1), isr := without v.isr (n : Int), rep := v.rep, tgt := v.tgt } : PV) = { v with isr := without v.isr (n : Int), vr := IntKind.i64.wrap (v.vr + 1) } := rfl
      rw [hld] at e1 e2 ⊢
      refine ⟨e1, ⟨e2.ep, hv1, fun _ => ?_⟩⟩
      show IntKind.i64.wrap (v.ep + 1) ≠ v.ep
      rw [ep_wrap h.toVP ht]; omega
    · rw [if_neg hld]
      refine ⟨⟨hp2.mono (by omega) (Int.le_refl _), h.l0, fun h0 => ?_, fun h0 x hx => ?_⟩, ⟨Int.le_refl _, hv1, fun hh => absurd rfl hh⟩⟩
      · have h0' : 0 ≤ v.ld := h0
        obtain ⟨m1, m2⟩ := h.l1 h0'
        exact ⟨without_mem.mpr ⟨m1, hld⟩, by show aliveB _ v.ld = true; rw [half _ h0' hld]; exact m2⟩
      · have h0' : v.ld < 0 := h0
        have hx' := without_mem.mp hx
        exact dead x (hnm x hx'.1).1 (h.l2 h0' x hx'.1)
  | false =>
    have hno : ∀ x ∈ without v.isr (n : Int), aliveB (ns.set n nd) x = false := by
      intro x hx
      cases hc : aliveB (ns.set n nd) x with
      | false => rfl
      | true => rw [List.any_eq_true.mpr ⟨x, hx, hc⟩] at hany; cases hany
    have e0 : ∀ (a b : PV), (if false = true then a else b) = b := fun a b => if_neg (by simp)
    rw [e0]
    by_cases hld : v.ld = (n : Int)
    · rw [if_pos hld]
      obtain ⟨e1, e2⟩ := elect_vi (hp.mono (Int.le_refl _) (show tv ≤ tv + 1 by omega)) ht
      exact ⟨e1, e2⟩
    · rw [if_neg hld]
      refine ⟨⟨hp.mono (by omega) (by omega), h.l0, fun h0 => ?_, fun h0 x hx => dead x (hnm x hx).1 (h.l2 h0 x hx)⟩, VR.refl _⟩
      obtain ⟨m1, m2⟩ := h.l1 h0
      exact ⟨m1, by rw [half _ h0 hld]; exact m2⟩

theorem isr_vi (h : VI ns te tv v) (ht : te < 4611686018427387903) (htv : tv < 4611686018427387902) (x : CV) : VI ns (te + 1) (tv + 2) (isrV ns x v).1 ∧ VR v (isrV ns x v).1 := by
  have keep : VI ns (te + 1) (tv + 2) v ∧ VR v v := ⟨h.mono (by omega) (by omega), VR.refl _⟩
  unfold isrV
  by_cases h1 : sortedI ns.length x.ls
  case neg => rw [if_pos h1]; exact keep
  rw [if_neg (by simp [h1])]
  by_cases h2 : v.ld < 0 ∨ x.ep ≠ v.ep ∨ x.nd ≠ v.ld ∨ x.vr ≠ v.vr
  · rw [if_pos h2]; exact keep
  rw [if_neg h2]
  by_cases h3 : v.ld ∈ x.ls
  case neg => rw [if_pos h3]; exact keep
  rw [if_neg (by simp [h3])]
  cases h4 : x.ls.any (isrBad ns v) with
  | true => rw [if_pos rfl]; exact keep
  | false =>
    rw [if_neg (by simp)]
    have hw := vr_wrap h.toVP (by omega)
    have hvr := h.vr
    have good : ∀ n ∈ x.ls, n ∈ v.rep ∨ n ∈ v.tgt := by
      intro n hn
      have hb : isrBad ns v n = false := by
        cases hc : isrBad ns v n with
        | false => rfl
        | true => rw [List.any_eq_true.mpr ⟨n, hn, hc⟩] at h4; cases h4
      unfold isrBad at hb
      simp only [Bool.not_eq_false', Bool.and_eq_true, Bool.or_eq_true, decide_eq_true_eq] at hb
      exact hb.1
    have h0 : 0 ≤ v.ld := by omega
    have hi : VI ns te (tv + 1) { v with isr := x.ls, vr := IntKind.i64.wrap (v.vr + 1) } :=
      ⟨⟨h1, h.sr, h.st, good, h.ep, by show 0 ≤ IntKind.i64.wrap (v.vr + 1) ∧ IntKind.i64.wrap (v.vr + 1) ≤ tv + 1; rw [hw]; omega⟩, h.l0, fun _ => ⟨h3, (h.l1 h0).2⟩, fun hh => by have : v.ld < 0 := hh; omega⟩
    obtain ⟨e1, e2⟩ := settle_vi hi (by omega) (by omega)
    refine ⟨e1.mono (Int.le_refl _) (by omega), ⟨e2.ep, ?_, e2.ld⟩⟩
    have h5 : v.vr ≤ IntKind.i64.wrap (v.vr + 1) := by rw [hw]; omega
    exact Int.le_trans h5 e2.vr

theorem move_vi (h : VI ns te tv v) (ht : te < 4611686018427387903) (htv : tv < 4611686018427387902) (x : CV) : VI ns (te + 1) (tv + 2) (moveV ns x v).1 ∧ VR v (moveV ns x v).1 := by
  have keep : VI ns (te + 1) (tv + 2) v ∧ VR v v := ⟨h.mono (by omega) (by omega), VR.refl _⟩
  unfold moveV
  by_cases h1 : sortedI ns.length x.ls
  case neg => rw [if_pos h1]; exact keep
  rw [if_neg (by simp [h1])]
  by_cases h2 : v.tgt = []
  case neg => rw [if_pos h2]; exact keep
  rw [if_neg (by simp [h2])]
  have hi : VI ns te tv { v with tgt := x.ls } :=
    ⟨⟨h.si, h.sr, .inr h1, fun n hn => .inl (by rcases h.sub n hn with hh | hh; exact hh; rw [h2] at hh; cases hh), h.ep, h.vr⟩, h.l0, h.l1, h.l2⟩
  obtain ⟨e1, e2⟩ := settle_vi hi (by omega) (by omega)
  exact ⟨e1.mono (Int.le_refl _) (by omega), ⟨e2.ep, e2.vr, e2.ld⟩⟩
end

/-- an image as it may be behind t commands -/
structure MI (t : Int) (m : IM) : Prop where
  nlen : 1 ≤ m.ns.length ∧ m.ns.length ≤ 5
  vlen : 1 ≤ m.vs.length ∧ m.vs.length ≤ 6
  next : 1 ≤ m.next ∧ m.next ≤ 1001
  vs : ∀ v ∈ m.vs, VI m.ns t (2 * t) v

theorem MI.ok {t : Int} {m : IM} (h : MI t m) : IOk m := ⟨fun v hv => (h.vs v hv).names, by have := h.nlen; omega, by have := h.vlen; omega, by have := h.next; omega⟩

structure MR (m m' : IM) : Prop where
  nl : m'.ns.length = m.ns.length
  vl : m'.vs.length = m.vs.length
  each : ∀ k (h : k < m.vs.length) (h' : k < m'.vs.length), VR m.vs[k] m'.vs[k]

theorem MR.same {m : IM} {c : Int} : MR m { m with count := c } := ⟨rfl, rfl, fun k _ _ => VR.refl _⟩

theorem apply_mi {t : Int} {m : IM} (h : MI t m) (ht : 0 ≤ t ∧ t < 5000000000000) (x : CV) : MI (t + 1) (applyI m x).1 ∧ MR m (applyI m x).1 := by
  have keep : ∀ c, MI (t + 1) { m with count := c } ∧ MR m { m with count := c } := fun c => ⟨⟨h.nlen, h.vlen, h.next, fun v hv => (h.vs v hv).mono (by omega) (by omega)⟩, MR.same⟩
  have hnx := h.next
  unfold applyI
  by_cases hk : x.k = 1 ∨ x.k = 2 ∨ x.k = 5
  · rw [if_pos hk]
    by_cases hr : x.nd < 0 ∨ (m.ns.length : Int) ≤ x.nd
    · rw [if_pos hr]; exact keep _
    rw [if_neg hr]
    obtain ⟨n, hn⟩ : ∃ n : Nat, x.nd = (n : Int) := ⟨x.nd.toNat, by omega⟩
    have hnn : n < m.ns.length := by omega
    have htn : x.nd.toNat = n := by omega
    rw [htn, getD_nat hnn, hn]
    by_cases h1 : x.k = 1
    · rw [if_pos h1]
      by_cases h2 : x.ep ≤ m.ns[n].cm
      · rw [if_pos h2]; exact keep _
      rw [if_neg h2]
      refine ⟨⟨by simpa using h.nlen, by simpa using h.vlen, hnx, fun v hv => ?_⟩, ⟨by simp, by simp, fun k hk' hk'' => ?_⟩⟩
      · obtain ⟨u, hu, rfl⟩ := List.mem_map.mp hv
        exact (join_vi (h.vs u hu) (by omega) hnn _ rfl).1.mono (Int.le_refl _) (by omega)
      · simp only [List.getElem_map]
        exact (join_vi (h.vs _ (List.getElem_mem hk')) (by omega) hnn _ rfl).2
    rw [if_neg h1]
    by_cases h2 : x.k = 2
    · rw [if_pos h2]
      cases hal : m.ns[n].al with
      | false => rw [if_neg (by simp)]; exact keep _
      | true =>
        rw [if_pos rfl]
        refine ⟨⟨by simpa using h.nlen, by simpa using h.vlen, hnx, fun v hv => ?_⟩, ⟨by simp, by simp, fun k hk' hk'' => ?_⟩⟩
        · obtain ⟨u, hu, rfl⟩ := List.mem_map.mp hv
          exact (fence_vi (h.vs u hu) (by omega) (by omega) hnn _ rfl).1.mono (Int.le_refl _) (by omega)
        · simp only [List.getElem_map]
          exact (fence_vi (h.vs _ (List.getElem_mem hk')) (by omega) (by omega) hnn _ rfl).2
    rw [if_neg h2]
    by_cases h3 : 1001 - m.next < 10
    · rw [if_pos h3]; exact keep _
    rw [if_neg h3]
    refine ⟨⟨by simpa using h.nlen, h.vlen, by show 1 ≤ m.next + 10 ∧ m.next + 10 ≤ 1001; omega, fun v hv => ?_⟩, ⟨by simp, rfl, fun k _ _ => VR.refl _⟩⟩
    have hv0 := h.vs v hv
    have hlen : (m.ns.set n { m.ns[n] with bk := m.next }).length = m.ns.length := by simp
    have hal : ∀ y, 0 ≤ y → aliveB (m.ns.set n { m.ns[n] with bk := m.next }) y = aliveB m.ns y := by
      intro y hy
      rw [aliveB_set hnn _ hy]
      split
      · rename_i he
        unfold aliveB
        have : y.toNat = n := by omega
        rw [this, List.getElem?_eq_getElem hnn]
      · rfl
    exact ⟨(hv0.toVP.len hlen).mono (by omega) (by omega), hv0.l0, fun h0 => ⟨(hv0.l1 h0).1, by rw [hal _ h0]; exact (hv0.l1 h0).2⟩, fun h0 y hy => by rw [hal _ (hv0.names.1 y hy).1]; exact hv0.l2 h0 y hy⟩
  · rw [if_neg hk]
    by_cases h34 : x.k = 3 ∨ x.k = 4
    · rw [if_pos h34]
      by_cases hr : x.pt < 0 ∨ (m.vs.length : Int) ≤ x.pt
      · rw [if_pos hr]; exact keep _
      rw [if_neg hr]
      obtain ⟨k, hkk⟩ : ∃ k : Nat, x.pt = (k : Int) := ⟨x.pt.toNat, by omega⟩
      have hkn : k < m.vs.length := by omega
      have htk : x.pt.toNat = k := by omega
      rw [htk, getD_nat hkn]
      have hp : VI m.ns (t + 1) (2 * t + 2) (partI m.ns x m.vs[k]).1 ∧ VR m.vs[k] (partI m.ns x m.vs[k]).1 := by
        unfold partI
        split
        · exact isr_vi (h.vs _ (List.getElem_mem hkn)) (by omega) (by omega) x
        · exact move_vi (h.vs _ (List.getElem_mem hkn)) (by omega) (by omega) x
      refine ⟨⟨h.nlen, by simpa using h.vlen, hnx, fun v hv => ?_⟩, ⟨rfl, by simp, fun j hj hj' => ?_⟩⟩
      · rcases List.mem_or_eq_of_mem_set hv with hv | rfl
        · exact (h.vs v hv).mono (by omega) (by omega)
        · exact hp.1.mono (Int.le_refl _) (by omega)
      · simp only [List.getElem_set]
        split
        · rename_i he; subst he; exact hp.2
        · exact VR.refl _
    · rw [if_neg h34]; exact keep _
end Go.Proofs.Ytjcenfgmpbeldaa

namespace Go.Proofs.Ytjcenfgmpbeldaa
open Go Go.Ev
set_option maxRecDepth 100000
set_option linter.unusedVariables false
set_option linter.unusedSimpArgs false

section
variable {w : World} {D : Nat → Prop} {b : Nat} {m : IM}

end

abbrev CT : Ty := .cons (.int .i64) (.cons (.int .i64) (.cons (.int .i64) (.cons (.int .i64) (.cons (.int .i64) (.cons (.slice (.int .i64)) .nil)))))
def toC (x : CT.Val) : CV := ⟨x.1, x.2.1, x.2.2.1, x.2.2.2.1, x.2.2.2.2.1, x.2.2.2.2.2.1.2⟩
theorem mem_le_sum : ∀ {l : List Nat} {a : Nat}, a ∈ l → a ≤ l.sum
  | [], a, h => by simp at h
  | b :: l, a, h => by
    rcases List.mem_cons.mp h with rfl | h
    · simp
    · have := mem_le_sum h
      simp only [List.sum_cons]; omega
theorem len_bulk2 {k : IntKind} {x : (Ty.slice (.int k)).Val} : x.2.length ≤ (Ty.slice (.int k)).bulk x := by rw [bulk_int]; omega
theorem cmds_len {x : (Ty.slice CT).Val} (h : Ty.Fits (.slice CT) x) : x.2.length ≤ 2199023255488 := by
  have : x.2.length * 64 ≤ 140737488351232 := Fits.sl h
  omega
/-- a command of the script -/
theorem cmd_at {W w : World} {x0 : (Ty.slice CT).Val} (h0 : (Ty.slice CT).At W [.slice x0.1.1 x0.1.2.1 x0.1.2.2] x0) (hb : Ty.Fits (.slice CT) x0) (hF : Fr [] W w) {k : Nat} (hk : k < x0.2.length) :
    ∃ a, idxA x0.1.1 x0.1.2.1 6 (k : Int) = some a ∧ ldN w a 0 6 = some ((toC x0.2[k]).cs x0.2[k].2.2.2.2.2.1.1) ∧ SlI .i64 w x0.2[k].2.2.2.2.2.1.1 (toC x0.2[k]).ls ∧ (toC x0.2[k]).ls.length ≤ 17592186043904 := by
  have hold : Old W w := (Old.refl W).fr hF (by simp)
  obtain ⟨a, cs, i1, g1, g2, g3⟩ := slice_get (at_old hold _ _ _ h0) hk
  have hbk : Ty.Fits CT x0.2[k] := hb.2 _ (List.getElem_mem hk)
  obtain ⟨y, hy⟩ : ∃ y, x0.2[k] = y := ⟨_, rfl⟩
  rw [hy] at g3 hbk ⊢
  obtain ⟨c0, c1, c2, c3, c4, ⟨q, vs⟩, _⟩ := y
  obtain ⟨e1, d1, rfl, _, ⟨rfl, h1⟩, e2, d2, rfl, _, ⟨rfl, h2⟩, e3, d3, rfl, _, ⟨rfl, h3⟩, e4, d4, rfl, _, ⟨rfl, h4⟩, e5, d5, rfl, _, ⟨rfl, h5⟩, e6, d6, rfl, _, hs, rfl⟩ := g3
  obtain ⟨psl, prg, _⟩ := slI_of_at (x := (q, vs)) ⟨rfl, hs.2⟩
  have hbk' : vs.length * 8 ≤ 140737488351232 := hbk.2.2.2.2.2.1.1
  have hs6 := hs.1
  simp only at hs6
  subst hs6
  exact ⟨a, i1, g2.ldN (n := 6) rfl, psl, by show vs.length ≤ 17592186043904; omega⟩

theorem mi_new : MI 0 ⟨List.replicate 5 nv0, newParts 5 3 4, 1, 0⟩ := by
  have hs : ∀ k < 4, sortedI 5 (isort (onR 5 3 k)) := by
    intro k hk
    rw [sortedI_iff]
    have hp := isort_perm (onR 5 3 k)
    have hmem : ∀ x, x ∈ isort (onR 5 3 k) ↔ x ∈ onR 5 3 k := fun x => hp.mem_iff
    have hnd : (onR 5 3 k).Nodup := by
      match k, hk with
      | 0, _ => decide
      | 1, _ => decide
      | 2, _ => decide
      | 3, _ => decide
    refine ⟨?_, ?_, ?_⟩
    · intro he
      have := hp.length_eq
      rw [he] at this
      simp [onR] at this
    · intro y hy
      rw [hmem] at hy
      unfold onR at hy
      obtain ⟨i, _, rfl⟩ := List.mem_map.mp hy
      have := Nat.mod_lt (k + i) (show 0 < 5 by decide)
      omega
    · have h1 := isort_up (onR 5 3 k)
      have h2 : (isort (onR 5 3 k)).Nodup := hp.nodup_iff.mpr hnd
      have h3 := h1.and h2
      exact h3.imp (by intro a b ⟨h, hne⟩; omega)
  refine ⟨by simp, by simp [newParts], by decide, fun v hv => ?_⟩
  obtain ⟨k, hk, rfl⟩ := List.mem_map.mp hv
  have hk4 : k < 4 := by simpa using hk
  have hsk := hs k hk4
  refine ⟨⟨hsk, hsk, .inl rfl, fun n hn => .inl hn, (by show (0 : Int) ≤ 0 ∧ (0 : Int) ≤ 0; omega), (by show (0 : Int) ≤ 0 ∧ (0 : Int) ≤ 2 * 0; omega)⟩, (by show (-1 : Int) ≤ -1; omega), fun h0 => absurd h0 (by show ¬ (0 : Int) ≤ -1; omega), fun _ n hn => ?_⟩
  have := (sortedI_iff.mp hsk).2.1 n hn
  unfold aliveB
  rw [List.getElem?_replicate]
  split
  · rename_i x hx
    split at hx
    · cases hx; rfl
    · cases hx
  · rfl

end Go.Proofs.Ytjcenfgmpbeldaa

namespace Go.Proofs.Ytjcenfgmpbeldaa
open Go Go.Ev
set_option maxRecDepth 100000
set_option linter.unusedVariables false
set_option linter.unusedSimpArgs false

/-- SameInts, of any two lists -/
theorem sameInts19 {w : World} {u v : Sh} {xs ys : List Int} (hu : SlI .i64 w u xs) (hv : SlI .i64 w v ys) (hl : xs.length ≤ 4611686018427387904) :
    ∃ w', callF Try.prog 19 #[.slice u.1 u.2.1 u.2.2, .slice v.1 v.2.1 v.2.2] w = some (.bool (decide (xs = ys)), w') ∧ Fr [] w w' := by
  have h1 := hu.1
  have h2 := hv.1
  by_cases hn : xs.length = ys.length
  case neg =>
    have k0 : ((u.2.1 : Int) != (v.2.1 : Int)) = true := by simp; omega
    have kd : decide (xs = ys) = false := by
      have : ¬ xs = ys := fun e => hn (by rw [e])
      simp [this]
    refine ⟨w, g19_call ?_, Fr.refl _ _⟩
    rw [kd]
    unfold g19
    simp only [k0, obs, asP_pointer, asB_bool, asI_int, asS_string, asSl_slice, asM_map, asTup0, asTup1, asTup2, asTup3, asTup4, asTup5, asTup6, asTup7, asTup8, asTup9, asAgg2, asAgg3, asAgg4, asAgg5, asAgg6, asAgg7, asAgg8, asAgg9, asAgg12, getD0, getD1, getD2, getD3, getD4, getD5, getD6, getD7, getD8, getD9, getD10, getD11, getD12, getD13, getD14, getD15, getD16, getD17, getD18, getD19, Bool.not_true, Bool.not_false, Bool.false_eq_true, Bool.true_eq_false, ↓reduceIte, decide_true, decide_false, Option.isNone_some, Option.isNone_none, Option.isSome_some, Option.isSome_none, beq_self_eq_true, bne_self_eq_false, Bool.and_true, Bool.true_and, Bool.and_false, Bool.false_and, not_true_eq_false, not_false_eq_true]
  have k0 : ((u.2.1 : Int) != (v.2.1 : Int)) = false := by simp; omega
  obtain ⟨e, t, w', g1, hF, hQ⟩ := loopS_rule (b := g19_l3_b u v) (n := xs.length) (I := fun k s x => s = (false, (k : Int)) ∧ Fr [] w x ∧ xs.take k = ys.take k)
    (Q := fun e s x => Fr [] w x ∧ (e = .ret ∧ s.1 = false ∧ xs ≠ ys ∨ e = .exit 0 ∧ xs = ys))
    (fun k s x hk ⟨hs, hF, ht⟩ => by
      subst hs
      have fd := Fr.drew [] x
      have F1 : Fr [] w x.drew := (Fr.mono (Fr.app hF fd) (by have z0_ := Fr.size hF; have z1_ := Fr.size fd; intro y_ hy_ hl_; grind [blkOf]))
      obtain ⟨a, i1, c1⟩ := (hu.fr3 F1 (by simp)).get hk
      obtain ⟨a', i2, c2⟩ := (hv.fr3 F1 (by simp)).get (i := k) (by omega)
      have k1 : decide ((k : Int) < (u.2.1 : Int)) = true := by simp; omega
      have kw := wrap_succ (n := k) (by omega)
      by_cases he : xs[k] = ys[k]
      · have k2 : (xs[k] != ys[k]) = false := by simp [he]
        refine ⟨.normal, (false, ((k + 1 : Nat) : Int)), x.drew, ?_, .inl ⟨rfl, rfl, F1, ?_⟩⟩
        · unfold g19_l3_b
          simp only [k1, i1, c1, i2, c2, k2, kw, obs, asP_pointer, asB_bool, asI_int, asS_string, asSl_slice, asM_map, asTup0, asTup1, asTup2, asTup3, asTup4, asTup5, asTup6, asTup7, asTup8, asTup9, asAgg2, asAgg3, asAgg4, asAgg5, asAgg6, asAgg7, asAgg8, asAgg9, asAgg12, getD0, getD1, getD2, getD3, getD4, getD5, getD6, getD7, getD8, getD9, getD10, getD11, getD12, getD13, getD14, getD15, getD16, getD17, getD18, getD19, Bool.not_true, Bool.not_false, Bool.false_eq_true, Bool.true_eq_false, ↓reduceIte, decide_true, decide_false, Option.isNone_some, Option.isNone_none, Option.isSome_some, Option.isSome_none, beq_self_eq_true, bne_self_eq_false, Bool.and_true, Bool.true_and, Bool.and_false, Bool.false_and, not_true_eq_false, not_false_eq_true]
        · rw [List.take_succ_eq_append_getElem hk, List.take_succ_eq_append_getElem (by omega), ht, he]
      · have k2 : (xs[k] != ys[k]) = true := by simp [he]
        refine ⟨.ret, (false, (k : Int)), x.drew, ?_, .inr ⟨by simp, F1, .inl ⟨rfl, rfl, fun e => he ?_⟩⟩⟩
        · unfold g19_l3_b
          simp only [k1, i1, c1, i2, c2, k2, obs, asP_pointer, asB_bool, asI_int, asS_string, asSl_slice, asM_map, asTup0, asTup1, asTup2, asTup3, asTup4, asTup5, asTup6, asTup7, asTup8, asTup9, asAgg2, asAgg3, asAgg4, asAgg5, asAgg6, asAgg7, asAgg8, asAgg9, asAgg12, getD0, getD1, getD2, getD3, getD4, getD5, getD6, getD7, getD8, getD9, getD10, getD11, getD12, getD13, getD14, getD15, getD16, getD17, getD18, getD19, Bool.not_true, Bool.not_false, Bool.false_eq_true, Bool.true_eq_false, ↓reduceIte, decide_true, decide_false, Option.isNone_some, Option.isNone_none, Option.isSome_some, Option.isSome_none, beq_self_eq_true, bne_self_eq_false, Bool.and_true, Bool.true_and, Bool.and_false, Bool.false_and, not_true_eq_false, not_false_eq_true]
        · have := congrArg (fun l => l[k]?) e
          simp only [List.getElem?_eq_getElem hk, List.getElem?_eq_getElem (show k < ys.length by omega), Option.some.injEq] at this
          exact this)
    (fun s x ⟨hs, hF, ht⟩ => by
      subst hs
      refine ⟨.exit 0, (false, (xs.length : Int)), x, ?_, by simp, hF, .inr ⟨rfl, ?_⟩⟩
      · have k1 : decide ((xs.length : Int) < (u.2.1 : Int)) = false := by simp; omega
        unfold g19_l3_b
        simp only [k1, Bool.false_eq_true, if_false]
      · rw [List.take_length] at ht
        rw [ht, hn, List.take_length]) (k := 0) (s := (false, 0)) (w := w) (Nat.zero_le _) ⟨rfl, Fr.refl _ _, by simp⟩
  rcases hQ with ⟨rfl, hs, hne⟩ | ⟨rfl, he⟩
  · refine ⟨w', g19_call ?_, hF⟩
    have kd : decide (xs = ys) = false := by simp [hne]
    rw [kd]
    unfold g19
    simp only [k0, obs, asP_pointer, asB_bool, asI_int, asS_string, asSl_slice, asM_map, asTup0, asTup1, asTup2, asTup3, asTup4, asTup5, asTup6, asTup7, asTup8, asTup9, asAgg2, asAgg3, asAgg4, asAgg5, asAgg6, asAgg7, asAgg8, asAgg9, asAgg12, getD0, getD1, getD2, getD3, getD4, getD5, getD6, getD7, getD8, getD9, getD10, getD11, getD12, getD13, getD14, getD15, getD16, getD17, getD18, getD19, Bool.not_true, Bool.not_false, Bool.false_eq_true, Bool.true_eq_false, ↓reduceIte, decide_true, decide_false, Option.isNone_some, Option.isNone_none, Option.isSome_some, Option.isSome_none, beq_self_eq_true, bne_self_eq_false, Bool.and_true, Bool.true_and, Bool.and_false, Bool.false_and, not_true_eq_false, not_false_eq_true]
    rw [g19_l3_ret_of g1, g19_l3_ret, hs]
  · refine ⟨w', g19_call ?_, hF⟩
    have kd : decide (xs = ys) = true := by simp [he]
    rw [kd]
    unfold g19
    simp only [k0, obs, asP_pointer, asB_bool, asI_int, asS_string, asSl_slice, asM_map, asTup0, asTup1, asTup2, asTup3, asTup4, asTup5, asTup6, asTup7, asTup8, asTup9, asAgg2, asAgg3, asAgg4, asAgg5, asAgg6, asAgg7, asAgg8, asAgg9, asAgg12, getD0, getD1, getD2, getD3, getD4, getD5, getD6, getD7, getD8, getD9, getD10, getD11, getD12, getD13, getD14, getD15, getD16, getD17, getD18, getD19, Bool.not_true, Bool.not_false, Bool.false_eq_true, Bool.true_eq_false, ↓reduceIte, decide_true, decide_false, Option.isNone_some, Option.isNone_none, Option.isSome_some, Option.isSome_none, beq_self_eq_true, bne_self_eq_false, Bool.and_true, Bool.true_and, Bool.and_false, Bool.false_and, not_true_eq_false, not_false_eq_true]
    rw [g19_l3_x0_of g1, g19_l3_x0]

end Go.Proofs.Ytjcenfgmpbeldaa
