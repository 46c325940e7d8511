/-
  ImageAb: lemmas on what Go functions of this seat come to (for whatever arguments, as each says). No condition but those that stand in each lemma.
-/
import Derived.Test.YtjcenfgmpbeldaaImageAa
namespace Go.Proofs.Ytjcenfgmpbeldaa
open Go Go.Ev
set_option maxRecDepth 100000
set_option linter.unusedVariables false
set_option linter.unusedSimpArgs false

/-- what an image tells -/
structure IM where
  ns : List NV
  vs : List PV
  next : Int
  count : Int

def partI (ns : List NV) (x : CV) (v : PV) : PV × Int := if x.k = 3 then isrV ns x v else moveV ns x v
/-- a command, in plain numbers -/
def applyI (m : IM) (x : CV) : IM × Int :=
  if x.k = 1 ∨ x.k = 2 ∨ x.k = 5 then
    if x.nd < 0 ∨ (m.ns.length : Int) ≤ x.nd then ({ m with count := IntKind.i64.wrap (m.count + 1) }, 1)
    else if x.k = 1 then
      if x.ep ≤ (m.ns.getD x.nd.toNat nv0).cm then ({ m with count := IntKind.i64.wrap (m.count + 1) }, 5)
      else ({ ns := m.ns.set x.nd.toNat { m.ns.getD x.nd.toNat nv0 with al := true, cm := x.ep }, vs := m.vs.map (joinV (m.ns.set x.nd.toNat { m.ns.getD x.nd.toNat nv0 with al := true, cm := x.ep }) x.nd), next := m.next, count := IntKind.i64.wrap (m.count + 1) }, 0)
    else if x.k = 2 then
      if (m.ns.getD x.nd.toNat nv0).al then ({ ns := m.ns.set x.nd.toNat { m.ns.getD x.nd.toNat nv0 with al := false }, vs := m.vs.map (fenceV (m.ns.set x.nd.toNat { m.ns.getD x.nd.toNat nv0 with al := false }) x.nd), next := m.next, count := IntKind.i64.wrap (m.count + 1) }, 0)
      else ({ m with count := IntKind.i64.wrap (m.count + 1) }, 4)
    else
      if 1001 - m.next < 10 then ({ m with count := IntKind.i64.wrap (m.count + 1) }, 17)
      else ({ ns := m.ns.set x.nd.toNat { m.ns.getD x.nd.toNat nv0 with bk := m.next }, vs := m.vs, next := m.next + 10, count := IntKind.i64.wrap (m.count + 1) }, 0)
  else if x.k = 3 ∨ x.k = 4 then
    if x.pt < 0 ∨ (m.vs.length : Int) ≤ x.pt then ({ m with count := IntKind.i64.wrap (m.count + 1) }, 1)
    else ({ m with vs := m.vs.set x.pt.toNat (partI m.ns x (m.vs.getD x.pt.toNat pv0)).1, count := IntKind.i64.wrap (m.count + 1) }, (partI m.ns x (m.vs.getD x.pt.toNat pv0)).2)
  else ({ m with count := IntKind.i64.wrap (m.count + 1) }, 1)

/-- an image in memory that tells m -/
def Img (w : World) (D : Nat → Prop) (b : Nat) (m : IM) : Prop := ∃ c nq pq es, Raw w D b c nq pq m.ns es m.next m.count ∧ es.map (·.v) = m.vs
theorem Img.fr {w w' : World} {D : Nat → Prop} {b : Nat} {m : IM} {S : List Nat} (h : Img w D b m) (hf : Fr S w w') (hS : ∀ y ∈ S, y < w.heap.size → ¬ D y) : Img w' D b m := by
  obtain ⟨c, nq, pq, es, h, hv⟩ := h; exact ⟨c, nq, pq, es, h.fr hf hS, hv⟩
theorem Img.lt {w : World} {D : Nat → Prop} {b : Nat} {m : IM} (h : Img w D b m) : ∀ y, D y → y < w.heap.size := by obtain ⟨c, nq, pq, es, h, hv⟩ := h; exact h.lt
theorem Img.db {w : World} {D : Nat → Prop} {b : Nat} {m : IM} (h : Img w D b m) : D b := by obtain ⟨c, nq, pq, es, h, hv⟩ := h; exact h.rb

/-- what Apply needs of an image -/
structure IOk (m : IM) : Prop where
  names : ∀ v ∈ m.vs, Names m.ns v.isr ∧ Names m.ns v.tgt
  nlen : m.ns.length ≤ 1000
  vlen : m.vs.length ≤ 1000
  next : 0 ≤ m.next ∧ m.next ≤ 1001

section
variable {w : World} {D : Nat → Prop} {b : Nat} {m : IM}

theorem getD_nat {α : Type} {l : List α} {i : Nat} (h : i < l.length) (d : α) : l.getD i d = l[i] := by simp [List.getD, h]

theorem apply13 (h : Img w D b m) (hm : IOk m) (x : CV) (q : Sh) (hu : SlI .i64 w q x.ls) (hqn : q.1 = none → q.2.1 = 0) (hl : x.ls.length ≤ 9223372036854775807) (hqD : 0 < q.2.1 → ∀ y ∈ blkOf q, ¬ D y) :
    ∃ D' w', callF Try.prog 13 #[.pointer (some ⟨b, 0, none⟩), x.arg q] w = some (.int .i64 (applyI m x).2, w') ∧ Img w' D' b (applyI m x).1 ∧ Chg D w w' D' := by
  obtain ⟨c, nq, pq, es, h, hv⟩ := h
  have hel : es.length = m.vs.length := by rw [← hv]; simp
  have hnm : ∀ e ∈ es, Names m.ns e.v.isr ∧ Names m.ns e.v.tgt := fun e he => hm.names e.v (by rw [← hv]; exact List.mem_map.mpr ⟨e, he, rfl⟩)
  have hnl := h.nlen
  have hpl := h.plen
  have hmn := hm.nlen
  have hmv := hm.vlen
  by_cases hk : x.k = 1 ∨ x.k = 2 ∨ x.k = 5
  · by_cases hr : x.nd < 0 ∨ (m.ns.length : Int) ≤ x.nd
    · -- there is no such node
      obtain ⟨w1, w5, hw1, c3, s5, R5, b5, f5, hz⟩ := apply_pre h x q
      have fd := Fr.drew [] w5
      have Rd := R5.fr fd (by simp)
      have bd := b5.fr fd (by simp)
      have k0 : w5.cell? ⟨w.heap.size, 0, none⟩ = some (.int .i64 x.k) := b5.cell 0
      have d1 : w5.drew.cell? ⟨w.heap.size, 1, none⟩ = some (.int .i64 x.nd) := bd.cell 1
      have p0 : w5.drew.cell? ⟨b, 0, none⟩ = some (.slice nq.1 nq.2.1 nq.2.2) := Rd.tbl.cell 0
      have ha : applyI m x = ({ m with count := IntKind.i64.wrap (m.count + 1) }, 1) := by unfold applyI; rw [if_pos hk, if_pos hr]
      rw [ha]
      refine ⟨D, w5.drew, g13_call ?_, ⟨c, nq, pq, es, Rd, hv⟩, chg_fr2 f5 (fun y hy _ => by simp at hy; subst hy; exact h.rb) (chg_fr fd (Chg.refl _ _))⟩
      have hj : g13_j9 w5 w (some ⟨b, 0, none⟩) x.k true = some (.int .i64 1, w5.drew) := by
        unfold g13_j9
        by_cases h0 : x.nd < 0
        · have q2 : decide (x.nd < 0) = true := by simp [h0]
          simp only [addr_add, Nat.zero_add, d1, q2, obs, asP_pointer, asB_bool, asI_int, asS_string, asSl_slice, asM_map, asTup0, asTup1, asTup2, asTup3, asTup4, asTup5, asTup6, asTup7, asTup8, asTup9, asAgg2, asAgg3, asAgg4, asAgg5, asAgg6, asAgg7, asAgg8, asAgg9, asAgg12, getD0, getD1, getD2, getD3, getD4, getD5, getD6, getD7, getD8, getD9, getD10, getD11, getD12, getD13, getD14, getD15, getD16, getD17, getD18, getD19, Bool.not_true, Bool.not_false, Bool.false_eq_true, Bool.true_eq_false, ↓reduceIte, decide_true, decide_false, Option.isNone_some, Option.isNone_none, Option.isSome_some, Option.isSome_none, beq_self_eq_true, bne_self_eq_false, Bool.and_true, Bool.true_and, Bool.and_false, Bool.false_and, not_true_eq_false, not_false_eq_true]
        · have q2 : decide (x.nd < 0) = false := by simp; omega
          have q3 : decide (x.nd ≥ (nq.2.1 : Int)) = true := by simp; omega
          simp only [addr_add, Nat.zero_add, d1, q2, p0, q3, obs, asP_pointer, asB_bool, asI_int, asS_string, asSl_slice, asM_map, asTup0, asTup1, asTup2, asTup3, asTup4, asTup5, asTup6, asTup7, asTup8, asTup9, asAgg2, asAgg3, asAgg4, asAgg5, asAgg6, asAgg7, asAgg8, asAgg9, asAgg12, getD0, getD1, getD2, getD3, getD4, getD5, getD6, getD7, getD8, getD9, getD10, getD11, getD12, getD13, getD14, getD15, getD16, getD17, getD18, getD19, Bool.not_true, Bool.not_false, Bool.false_eq_true, Bool.true_eq_false, ↓reduceIte, decide_true, decide_false, Option.isNone_some, Option.isNone_none, Option.isSome_some, Option.isSome_none, beq_self_eq_true, bne_self_eq_false, Bool.and_true, Bool.true_and, Bool.and_false, Bool.false_and, not_true_eq_false, not_false_eq_true]
      unfold g13
      rcases hk with hk | hk | hk
      · have q1 : (x.k == 1) = true := by simp [hk]
        simp only [hw1, addr_add, Nat.zero_add, c3, s5, k0, q1, hj, obs, asP_pointer, asB_bool, asI_int, asS_string, asSl_slice, asM_map, asTup0, asTup1, asTup2, asTup3, asTup4, asTup5, asTup6, asTup7, asTup8, asTup9, asAgg2, asAgg3, asAgg4, asAgg5, asAgg6, asAgg7, asAgg8, asAgg9, asAgg12, getD0, getD1, getD2, getD3, getD4, getD5, getD6, getD7, getD8, getD9, getD10, getD11, getD12, getD13, getD14, getD15, getD16, getD17, getD18, getD19, Bool.not_true, Bool.not_false, Bool.false_eq_true, Bool.true_eq_false, ↓reduceIte, decide_true, decide_false, Option.isNone_some, Option.isNone_none, Option.isSome_some, Option.isSome_none, beq_self_eq_true, bne_self_eq_false, Bool.and_true, Bool.true_and, Bool.and_false, Bool.false_and, not_true_eq_false, not_false_eq_true]
      · have q1 : (x.k == 1) = false := by simp [hk]
        have q12 : (x.k == 2) = true := by simp [hk]
        simp only [hw1, addr_add, Nat.zero_add, c3, s5, k0, q1, q12, hj, obs, asP_pointer, asB_bool, asI_int, asS_string, asSl_slice, asM_map, asTup0, asTup1, asTup2, asTup3, asTup4, asTup5, asTup6, asTup7, asTup8, asTup9, asAgg2, asAgg3, asAgg4, asAgg5, asAgg6, asAgg7, asAgg8, asAgg9, asAgg12, getD0, getD1, getD2, getD3, getD4, getD5, getD6, getD7, getD8, getD9, getD10, getD11, getD12, getD13, getD14, getD15, getD16, getD17, getD18, getD19, Bool.not_true, Bool.not_false, Bool.false_eq_true, Bool.true_eq_false, ↓reduceIte, decide_true, decide_false, Option.isNone_some, Option.isNone_none, Option.isSome_some, Option.isSome_none, beq_self_eq_true, bne_self_eq_false, Bool.and_true, Bool.true_and, Bool.and_false, Bool.false_and, not_true_eq_false, not_false_eq_true]
      · have q1 : (x.k == 1) = false := by simp [hk]
        have q12 : (x.k == 2) = false := by simp [hk]
        have q15 : (x.k == 5) = true := by simp [hk]
        simp only [hw1, addr_add, Nat.zero_add, c3, s5, k0, q1, q12, q15, hj, obs, asP_pointer, asB_bool, asI_int, asS_string, asSl_slice, asM_map, asTup0, asTup1, asTup2, asTup3, asTup4, asTup5, asTup6, asTup7, asTup8, asTup9, asAgg2, asAgg3, asAgg4, asAgg5, asAgg6, asAgg7, asAgg8, asAgg9, asAgg12, getD0, getD1, getD2, getD3, getD4, getD5, getD6, getD7, getD8, getD9, getD10, getD11, getD12, getD13, getD14, getD15, getD16, getD17, getD18, getD19, Bool.not_true, Bool.not_false, Bool.false_eq_true, Bool.true_eq_false, ↓reduceIte, decide_true, decide_false, Option.isNone_some, Option.isNone_none, Option.isSome_some, Option.isSome_none, beq_self_eq_true, bne_self_eq_false, Bool.and_true, Bool.true_and, Bool.and_false, Bool.false_and, not_true_eq_false, not_false_eq_true]
    · obtain ⟨n, hn⟩ : ∃ n : Nat, x.nd = (n : Int) := ⟨x.nd.toNat, by omega⟩
      have hnn : n < m.ns.length := by omega
      have ht : x.nd.toNat = n := by omega
      have hgd : m.ns.getD n nv0 = m.ns[n] := getD_nat hnn _
      have hap : applyI m x = (if x.k = 1 then
          if x.ep ≤ m.ns[n].cm then ({ m with count := IntKind.i64.wrap (m.count + 1) }, 5)
          else ({ ns := m.ns.set n { m.ns[n] with al := true, cm := x.ep }, vs := m.vs.map (joinV (m.ns.set n { m.ns[n] with al := true, cm := x.ep }) (n : Int)), next := m.next, count := IntKind.i64.wrap (m.count + 1) }, 0)
        else if x.k = 2 then
          if m.ns[n].al then ({ ns := m.ns.set n { m.ns[n] with al := false }, vs := m.vs.map (fenceV (m.ns.set n { m.ns[n] with al := false }) (n : Int)), next := m.next, count := IntKind.i64.wrap (m.count + 1) }, 0)
          else ({ m with count := IntKind.i64.wrap (m.count + 1) }, 4)
        else
          if 1001 - m.next < 10 then ({ m with count := IntKind.i64.wrap (m.count + 1) }, 17)
          else ({ ns := m.ns.set n { m.ns[n] with bk := m.next }, vs := m.vs, next := m.next + 10, count := IntKind.i64.wrap (m.count + 1) }, 0)) := by
        unfold applyI
        rw [if_pos hk, if_neg hr, ht, hgd, hn]
      rw [hap]
      by_cases h1 : x.k = 1
      · rw [if_pos h1]
        obtain ⟨w', e, R, S, fS, hS⟩ := apply_join h x q h1 hnn hn (fun e he => (hnm e he).1) (by omega)
        have C : Chg D w w' D := chgP fS (fun y hy _ => hS y hy) (fun _ => id) (fun y hy => .inl hy)
        by_cases h2 : x.ep ≤ m.ns[n].cm
        · simp only [h2, if_true] at e R ⊢
          exact ⟨D, w', e, ⟨c, nq, pq, es, R, hv⟩, C⟩
        · simp only [h2, if_false] at e R ⊢
          refine ⟨D, w', e, ⟨c, nq, pq, _, R, ?_⟩, C⟩
          rw [← hv, List.map_map, List.map_map]
          rfl
      · rw [if_neg h1]
        by_cases h2 : x.k = 2
        · rw [if_pos h2]
          obtain ⟨w1, w5, hw1, c3, s5, R5, b5, f5, hz⟩ := apply_pre h x q
          have fd := Fr.drew [] w5
          have Rd := R5.fr fd (by simp)
          have bd := b5.fr fd (by simp)
          obtain ⟨D6, es6, w6, e6, R6, hv6, C6⟩ := fence38 Rd hnn (fun e he => (hnm e he).1) (by omega)
          have k0 : w5.cell? ⟨w.heap.size, 0, none⟩ = some (.int .i64 x.k) := b5.cell 0
          have d0 : w5.drew.cell? ⟨w.heap.size, 0, none⟩ = some (.int .i64 x.k) := bd.cell 0
          have d1 : w5.drew.cell? ⟨w.heap.size, 1, none⟩ = some (.int .i64 x.nd) := bd.cell 1
          have p0 : w5.drew.cell? ⟨b, 0, none⟩ = some (.slice nq.1 nq.2.1 nq.2.2) := Rd.tbl.cell 0
          have q1 : (x.k == 1) = false := by simp [h2]
          have q12 : (x.k == 2) = true := by simp [h2]
          have q2 : decide (x.nd < 0) = false := by simp; omega
          have q3 : decide (x.nd ≥ (nq.2.1 : Int)) = false := by simp; omega
          rw [← hn] at e6
          have e13 : callF Try.prog 13 #[.pointer (some ⟨b, 0, none⟩), x.arg q] w = some (.int .i64 (if m.ns[n].al then 0 else 4), w6) := by
            refine g13_call ?_
            unfold g13
            simp only [hw1, addr_add, Nat.zero_add, c3, s5, k0, q1, q12, g13_j9, d1, q2, p0, q3, g13_j6, d0, e6, obs, asP_pointer, asB_bool, asI_int, asS_string, asSl_slice, asM_map, asTup0, asTup1, asTup2, asTup3, asTup4, asTup5, asTup6, asTup7, asTup8, asTup9, asAgg2, asAgg3, asAgg4, asAgg5, asAgg6, asAgg7, asAgg8, asAgg9, asAgg12, getD0, getD1, getD2, getD3, getD4, getD5, getD6, getD7, getD8, getD9, getD10, getD11, getD12, getD13, getD14, getD15, getD16, getD17, getD18, getD19, Bool.not_true, Bool.not_false, Bool.false_eq_true, Bool.true_eq_false, ↓reduceIte, decide_true, decide_false, Option.isNone_some, Option.isNone_none, Option.isSome_some, Option.isSome_none, beq_self_eq_true, bne_self_eq_false, Bool.and_true, Bool.true_and, Bool.and_false, Bool.false_and, not_true_eq_false, not_false_eq_true]
          have C : Chg D w w6 D6 := chg_fr2 f5 (fun y hy _ => by simp at hy; subst hy; exact h.rb) (chg_fr fd C6)
          rw [hv] at hv6
          cases hal : m.ns[n].al with
          | true =>
            simp only [hal, if_true] at e13 R6 hv6 ⊢
            exact ⟨D6, w6, e13, ⟨c, nq, pq, es6, R6, hv6⟩, C⟩
          | false =>
            simp only [hal, Bool.false_eq_true, if_false] at e13 R6 hv6 ⊢
            exact ⟨D6, w6, e13, ⟨c, nq, pq, es6, R6, hv6⟩, C⟩
        · rw [if_neg h2]
          have h5 : x.k = 5 := by rcases hk with hh | hh | hh; exact absurd hh h1; exact absurd hh h2; exact hh
          obtain ⟨w', e, R, S, fS, hS⟩ := apply_block h x q h5 hnn hn hm.next
          have C : Chg D w w' D := chgP fS (fun y hy _ => hS y hy) (fun _ => id) (fun y hy => .inl hy)
          by_cases h3 : 1001 - m.next < 10
          · simp only [h3, if_true] at e R ⊢
            exact ⟨D, w', e, ⟨c, nq, pq, es, R, hv⟩, C⟩
          · simp only [h3, if_false] at e R ⊢
            exact ⟨D, w', e, ⟨c, nq, pq, es, R, hv⟩, C⟩
  · have z1 : (x.k == 1) = false := by have : ¬ x.k = 1 := fun e => hk (.inl e); simp [this]
    have z2 : (x.k == 2) = false := by have : ¬ x.k = 2 := fun e => hk (.inr (.inl e)); simp [this]
    have z5 : (x.k == 5) = false := by have : ¬ x.k = 5 := fun e => hk (.inr (.inr e)); simp [this]
    obtain ⟨w1, w5, hw1, c3, s5, R5, b5, f5, hz⟩ := apply_pre h x q
    have k0 : w5.cell? ⟨w.heap.size, 0, none⟩ = some (.int .i64 x.k) := b5.cell 0
    have fb : ∀ y ∈ [b], y < w.heap.size → D y := fun y hy _ => by simp at hy; subst hy; exact h.rb
    by_cases h34 : x.k = 3 ∨ x.k = 4
    · have fd := Fr.drew [] w5
      have Rd := R5.fr fd (by simp)
      have bd := b5.fr fd (by simp)
      have d0 : w5.drew.cell? ⟨w.heap.size, 0, none⟩ = some (.int .i64 x.k) := bd.cell 0
      have d2 : w5.drew.cell? ⟨w.heap.size, 2, none⟩ = some (.int .i64 x.pt) := bd.cell 2
      have p1 : w5.drew.cell? ⟨b, 1, none⟩ = some (.slice pq.1 pq.2.1 pq.2.2) := Rd.tbl.cell 1
      have beg : ∀ r, g13_j19 w5 w (some ⟨b, 0, none⟩) true = some r → callF Try.prog 13 #[.pointer (some ⟨b, 0, none⟩), x.arg q] w = some r := by
        intro r hr
        refine g13_call ?_
        unfold g13
        rcases h34 with h3 | h4
        · have q3 : (x.k == 3) = true := by simp [h3]
          simp only [hw1, addr_add, Nat.zero_add, c3, s5, k0, z1, z2, z5, g13_j9, q3, obs, asP_pointer, asB_bool, asI_int, asS_string, asSl_slice, asM_map, asTup0, asTup1, asTup2, asTup3, asTup4, asTup5, asTup6, asTup7, asTup8, asTup9, asAgg2, asAgg3, asAgg4, asAgg5, asAgg6, asAgg7, asAgg8, asAgg9, asAgg12, getD0, getD1, getD2, getD3, getD4, getD5, getD6, getD7, getD8, getD9, getD10, getD11, getD12, getD13, getD14, getD15, getD16, getD17, getD18, getD19, Bool.not_true, Bool.not_false, Bool.false_eq_true, Bool.true_eq_false, ↓reduceIte, decide_true, decide_false, Option.isNone_some, Option.isNone_none, Option.isSome_some, Option.isSome_none, beq_self_eq_true, bne_self_eq_false, Bool.and_true, Bool.true_and, Bool.and_false, Bool.false_and, not_true_eq_false, not_false_eq_true]
          exact hr
        · have q3 : (x.k == 3) = false := by simp [h4]
          have q4 : (x.k == 4) = true := by simp [h4]
          simp only [hw1, addr_add, Nat.zero_add, c3, s5, k0, z1, z2, z5, g13_j9, q3, q4, obs, asP_pointer, asB_bool, asI_int, asS_string, asSl_slice, asM_map, asTup0, asTup1, asTup2, asTup3, asTup4, asTup5, asTup6, asTup7, asTup8, asTup9, asAgg2, asAgg3, asAgg4, asAgg5, asAgg6, asAgg7, asAgg8, asAgg9, asAgg12, getD0, getD1, getD2, getD3, getD4, getD5, getD6, getD7, getD8, getD9, getD10, getD11, getD12, getD13, getD14, getD15, getD16, getD17, getD18, getD19, Bool.not_true, Bool.not_false, Bool.false_eq_true, Bool.true_eq_false, ↓reduceIte, decide_true, decide_false, Option.isNone_some, Option.isNone_none, Option.isSome_some, Option.isSome_none, beq_self_eq_true, bne_self_eq_false, Bool.and_true, Bool.true_and, Bool.and_false, Bool.false_and, not_true_eq_false, not_false_eq_true]
          exact hr
      by_cases hr : x.pt < 0 ∨ (m.vs.length : Int) ≤ x.pt
      · have ha : applyI m x = ({ m with count := IntKind.i64.wrap (m.count + 1) }, 1) := by unfold applyI; rw [if_neg hk, if_pos h34, if_pos hr]
        rw [ha]
        refine ⟨D, w5.drew, beg _ ?_, ⟨c, nq, pq, es, Rd, hv⟩, chg_fr2 f5 fb (chg_fr fd (Chg.refl _ _))⟩
        unfold g13_j19
        by_cases h0 : x.pt < 0
        · have q2 : decide (x.pt < 0) = true := by simp [h0]
          simp only [addr_add, Nat.zero_add, d2, q2, obs, asP_pointer, asB_bool, asI_int, asS_string, asSl_slice, asM_map, asTup0, asTup1, asTup2, asTup3, asTup4, asTup5, asTup6, asTup7, asTup8, asTup9, asAgg2, asAgg3, asAgg4, asAgg5, asAgg6, asAgg7, asAgg8, asAgg9, asAgg12, getD0, getD1, getD2, getD3, getD4, getD5, getD6, getD7, getD8, getD9, getD10, getD11, getD12, getD13, getD14, getD15, getD16, getD17, getD18, getD19, Bool.not_true, Bool.not_false, Bool.false_eq_true, Bool.true_eq_false, ↓reduceIte, decide_true, decide_false, Option.isNone_some, Option.isNone_none, Option.isSome_some, Option.isSome_none, beq_self_eq_true, bne_self_eq_false, Bool.and_true, Bool.true_and, Bool.and_false, Bool.false_and, not_true_eq_false, not_false_eq_true]
        · have q2 : decide (x.pt < 0) = false := by simp; omega
          have q3 : decide (x.pt ≥ (pq.2.1 : Int)) = true := by simp; omega
          simp only [addr_add, Nat.zero_add, d2, q2, p1, q3, obs, asP_pointer, asB_bool, asI_int, asS_string, asSl_slice, asM_map, asTup0, asTup1, asTup2, asTup3, asTup4, asTup5, asTup6, asTup7, asTup8, asTup9, asAgg2, asAgg3, asAgg4, asAgg5, asAgg6, asAgg7, asAgg8, asAgg9, asAgg12, getD0, getD1, getD2, getD3, getD4, getD5, getD6, getD7, getD8, getD9, getD10, getD11, getD12, getD13, getD14, getD15, getD16, getD17, getD18, getD19, Bool.not_true, Bool.not_false, Bool.false_eq_true, Bool.true_eq_false, ↓reduceIte, decide_true, decide_false, Option.isNone_some, Option.isNone_none, Option.isSome_some, Option.isSome_none, beq_self_eq_true, bne_self_eq_false, Bool.and_true, Bool.true_and, Bool.and_false, Bool.false_and, not_true_eq_false, not_false_eq_true]
      · obtain ⟨k, hkk⟩ : ∃ k : Nat, x.pt = (k : Int) := ⟨x.pt.toNat, by omega⟩
        have hkn : k < m.vs.length := by omega
        have hke : k < es.length := by omega
        have ht : x.pt.toNat = k := by omega
        have hev : m.vs.getD k pv0 = es[k].v := by rw [getD_nat hkn]; simp [← hv]
        have ha : applyI m x = ({ m with vs := m.vs.set k (partI m.ns x es[k].v).1, count := IntKind.i64.wrap (m.count + 1) }, (partI m.ns x es[k].v).2) := by
          unfold applyI; rw [if_neg hk, if_pos h34, if_neg hr, ht, hev]
        rw [ha]
        have q2 : decide (x.pt < 0) = false := by simp; omega
        have q3 : decide (x.pt ≥ (pq.2.1 : Int)) = false := by simp; omega
        have Fd : Fr [b] w w5.drew := (f5.app fd).mono (by intro y hy _; simpa using hy)
        have hud : SlI .i64 w5.drew q x.ls := hu.fr3 Fd (fun h0 y hy hm' => by simp at hm'; subst hm'; exact hqD h0 _ hy h.rb)
        have ld := bd.ldN (n := 6) rfl
        simp only [CV.cs] at ld
        have fin : ∀ D6 e6 w6, e6.v = (partI m.ns x es[k].v).1 → Raw w6 D6 b c nq pq m.ns (es.set k e6) m.next (IntKind.i64.wrap (m.count + 1)) → Chg D w5.drew w6 D6 → callF Try.prog 13 #[.pointer (some ⟨b, 0, none⟩), x.arg q] w = some (.int .i64 (partI m.ns x es[k].v).2, w6) →
            ∃ D' w', callF Try.prog 13 #[.pointer (some ⟨b, 0, none⟩), x.arg q] w = some (.int .i64 (partI m.ns x es[k].v).2, w') ∧ Img w' D' b { m with vs := m.vs.set k (partI m.ns x es[k].v).1, count := IntKind.i64.wrap (m.count + 1) } ∧ Chg D w w' D' := by
          intro D6 e6 w6 hv6 R6 C6 e13
          refine ⟨D6, w6, e13, ⟨c, nq, pq, _, R6, ?_⟩, chg_fr2 f5 fb (chg_fr fd C6)⟩
          rw [List.map_set, hv, hv6]
        by_cases h3 : x.k = 3
        · obtain ⟨D6, e6, w6, e39, hv6, R6, C6⟩ := isr39 Rd hke x q hkk hud hqn hl hmn (hnm _ (List.getElem_mem hke)).2
          have hp : partI m.ns x es[k].v = isrV m.ns x es[k].v := by unfold partI; rw [if_pos h3]
          rw [← hp] at e39 hv6
          simp only [CV.arg] at e39
          refine fin D6 e6 w6 hv6 R6 C6 (beg _ ?_)
          have r1 : (x.k == 1) = false := z1
          have r3 : (x.k == 3) = true := by simp [h3]
          unfold g13_j19
          simp only [addr_add, Nat.zero_add, d2, q2, p1, q3, g13_j6, d0, z1, z2, r3, ld, e39, obs, asP_pointer, asB_bool, asI_int, asS_string, asSl_slice, asM_map, asTup0, asTup1, asTup2, asTup3, asTup4, asTup5, asTup6, asTup7, asTup8, asTup9, asAgg2, asAgg3, asAgg4, asAgg5, asAgg6, asAgg7, asAgg8, asAgg9, asAgg12, getD0, getD1, getD2, getD3, getD4, getD5, getD6, getD7, getD8, getD9, getD10, getD11, getD12, getD13, getD14, getD15, getD16, getD17, getD18, getD19, Bool.not_true, Bool.not_false, Bool.false_eq_true, Bool.true_eq_false, ↓reduceIte, decide_true, decide_false, Option.isNone_some, Option.isNone_none, Option.isSome_some, Option.isSome_none, beq_self_eq_true, bne_self_eq_false, Bool.and_true, Bool.true_and, Bool.and_false, Bool.false_and, not_true_eq_false, not_false_eq_true]
        · obtain ⟨D6, e6, w6, e40, hv6, R6, C6⟩ := move40 Rd hke x q hkk hud hqn hl hmn
          have hp : partI m.ns x es[k].v = moveV m.ns x es[k].v := by unfold partI; rw [if_neg h3]
          rw [← hp] at e40 hv6
          simp only [CV.arg] at e40
          refine fin D6 e6 w6 hv6 R6 C6 (beg _ ?_)
          have r3 : (x.k == 3) = false := by simp [h3]
          have r4 : (x.k == 4) = true := by rcases h34 with hh | hh; exact absurd hh h3; simp [hh]
          unfold g13_j19
          simp only [addr_add, Nat.zero_add, d2, q2, p1, q3, g13_j6, d0, z1, z2, r3, r4, ld, e40, obs, asP_pointer, asB_bool, asI_int, asS_string, asSl_slice, asM_map, asTup0, asTup1, asTup2, asTup3, asTup4, asTup5, asTup6, asTup7, asTup8, asTup9, asAgg2, asAgg3, asAgg4, asAgg5, asAgg6, asAgg7, asAgg8, asAgg9, asAgg12, getD0, getD1, getD2, getD3, getD4, getD5, getD6, getD7, getD8, getD9, getD10, getD11, getD12, getD13, getD14, getD15, getD16, getD17, getD18, getD19, Bool.not_true, Bool.not_false, Bool.false_eq_true, Bool.true_eq_false, ↓reduceIte, decide_true, decide_false, Option.isNone_some, Option.isNone_none, Option.isSome_some, Option.isSome_none, beq_self_eq_true, bne_self_eq_false, Bool.and_true, Bool.true_and, Bool.and_false, Bool.false_and, not_true_eq_false, not_false_eq_true]
    · have ha : applyI m x = ({ m with count := IntKind.i64.wrap (m.count + 1) }, 1) := by unfold applyI; rw [if_neg hk, if_neg h34]
      rw [ha]
      have r3 : (x.k == 3) = false := by have : ¬ x.k = 3 := fun e => h34 (.inl e); simp [this]
      have r4 : (x.k == 4) = false := by have : ¬ x.k = 4 := fun e => h34 (.inr e); simp [this]
      refine ⟨D, w5, g13_call ?_, ⟨c, nq, pq, es, R5, hv⟩, chg_fr2 f5 fb (Chg.refl _ _)⟩
      unfold g13
      simp only [hw1, addr_add, Nat.zero_add, c3, s5, k0, z1, z2, z5, g13_j9, r3, r4, g13_j19, g13_j6, obs, asP_pointer, asB_bool, asI_int, asS_string, asSl_slice, asM_map, asTup0, asTup1, asTup2, asTup3, asTup4, asTup5, asTup6, asTup7, asTup8, asTup9, asAgg2, asAgg3, asAgg4, asAgg5, asAgg6, asAgg7, asAgg8, asAgg9, asAgg12, getD0, getD1, getD2, getD3, getD4, getD5, getD6, getD7, getD8, getD9, getD10, getD11, getD12, getD13, getD14, getD15, getD16, getD17, getD18, getD19, Bool.not_true, Bool.not_false, Bool.false_eq_true, Bool.true_eq_false, ↓reduceIte, decide_true, decide_false, Option.isNone_some, Option.isNone_none, Option.isSome_some, Option.isSome_none, beq_self_eq_true, bne_self_eq_false, Bool.and_true, Bool.true_and, Bool.and_false, Bool.false_and, not_true_eq_false, not_false_eq_true]
end
end Go.Proofs.Ytjcenfgmpbeldaa
