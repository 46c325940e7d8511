/-
  ImageAa: lemmas on what Go functions of this seat come to (for whatever arguments, as each says). No condition but those that stand in each lemma.
-/
import Derived.Test.YtjcenfgmpbeldaaImageA
namespace Go.Proofs.Ytjcenfgmpbeldaa
open Go Go.Ev
set_option maxRecDepth 100000
set_option linter.unusedVariables false
set_option linter.unusedSimpArgs false

def fenceV (ns : List NV) (n : Int) (v : PV) : PV :=
  if n ∈ v.isr then (if v.ld = n then electV ns (if (without v.isr n).any (aliveB ns) then { v with isr := without v.isr n, vr := IntKind.i64.wrap (v.vr + 1) } else v) else (if (without v.isr n).any (aliveB ns) then { v with isr := without v.isr n, vr := IntKind.i64.wrap (v.vr + 1) } else v)) else v

section
variable {w : World} {D : Nat → Prop} {b c : Nat} {nq pq : Sh} {ns : List NV} {es : List PE} {next count : Int}

theorem without72 {q : Sh} {l : List Int} (h : SlC w 1 q (l.map (Value.int .i64))) (hq : q.1 = none → q.2.1 = 0) (hn : l.length ≤ 1000000000) (n : Int) :
    ∃ v w', callF Try.prog 72 #[.slice q.1 q.2.1 q.2.2, .int .i64 n] w = some (.slice v.1 v.2.1 v.2.2, w') ∧ Own w' 3 1 v (intsV' (without l n)) ∧ Fr [] w w' ∧ ∀ y ∈ blkOf v, w.heap.size ≤ y := by
  have fa : Fr [] w (w.alloc (.cells #[.int .i64 n] 3)) := Fr.alloc _
  have ba : Blk (w.alloc (.cells #[.int .i64 n] 3)) w.heap.size [.int .i64 n] 3 := Blk.new w [.int .i64 n] 3
  obtain ⟨w1, hw1⟩ : ∃ w1, w.alloc (.cells #[.int .i64 n] 3) = w1 := ⟨_, rfl⟩
  rw [hw1] at fa ba
  obtain ⟨q2, w2, e2, o2, f2, n2⟩ := clone36 (h.fr fa (by simp)) hq hn
  have c2 : w2.cell? ⟨w.heap.size, 0, none⟩ = some (.int .i64 n) := (ba.fr f2 (by simp)).cell 0
  have z1 := fa.size
  have lb := ba.lt
  obtain ⟨v, w3, e3, o3, f3, n3⟩ := delete47 (a := ⟨w.heap.size, 0, none⟩) (m := n) o2 (by omega) c2 (fun hy => by have := n2 _ hy; simp at this; omega)
  have F2 : Fr [] w w2 := (Fr.mono (Fr.app fa f2) (by have z0_ := Fr.size fa; have z1_ := Fr.size f2; intro y_ hy_ hl_; grind [blkOf]))
  refine ⟨v, w3, g72_call (u0 := q) ?_, o3, (F2.app f3).mono (by intro y hy hl; simp at hy; have := n2 y hy; omega), fun y hy => by have := n2 y (n3 y hy); omega⟩
  unfold g72
  simp only [hw1, e2, e3, obs, asP_pointer, asB_bool, asI_int, asS_string, asSl_slice, asM_map, asTup0, asTup1, asTup2, asTup3, asTup4, asTup5, asTup6, asTup7, asTup8, asTup9, asAgg2, asAgg3, asAgg4, asAgg5, asAgg6, asAgg7, asAgg8, asAgg9, asAgg12, getD0, getD1, getD2, getD3, getD4, getD5, getD6, getD7, getD8, getD9, getD10, getD11, getD12, getD13, getD14, getD15, getD16, getD17, getD18, getD19, Bool.not_true, Bool.not_false, Bool.false_eq_true, Bool.true_eq_false, ↓reduceIte, decide_true, decide_false, Option.isNone_some, Option.isNone_none, Option.isSome_some, Option.isSome_none, beq_self_eq_true, bne_self_eq_false, Bool.and_true, Bool.true_and, Bool.and_false, Bool.false_and, not_true_eq_false, not_false_eq_true]

theorem alive74 (h : Raw w D b c nq pq ns es next count) {a : Addr} (ha : w.cell? a = some (.pointer (some ⟨b, 0, none⟩))) {n : Int} (hn : 0 ≤ n ∧ n < ns.length) :
    callF Try.prog 74 #[.int .i64 n, .pointer (some a)] w = some (.bool (aliveB ns n), w) := by
  have hnl : n.toNat < ns.length := by omega
  obtain ⟨an, i2, al0, _, _⟩ := h.node_at hnl
  have hnn : ((n.toNat : Nat) : Int) = n := by omega
  rw [hnn] at i2
  have hal : aliveB ns n = ns[n.toNat].al := by unfold aliveB; rw [List.getElem?_eq_getElem hnl]
  have c0 : w.cell? ⟨b, 0, none⟩ = some (.slice nq.1 nq.2.1 nq.2.2) := h.tbl.cell 0
  refine g74_call ?_
  unfold g74
  rw [hal]
  simp only [ha, c0, i2, al0, obs, asP_pointer, asB_bool, asI_int, asS_string, asSl_slice, asM_map, asTup0, asTup1, asTup2, asTup3, asTup4, asTup5, asTup6, asTup7, asTup8, asTup9, asAgg2, asAgg3, asAgg4, asAgg5, asAgg6, asAgg7, asAgg8, asAgg9, asAgg12, getD0, getD1, getD2, getD3, getD4, getD5, getD6, getD7, getD8, getD9, getD10, getD11, getD12, getD13, getD14, getD15, getD16, getD17, getD18, getD19, Bool.not_true, Bool.not_false, Bool.false_eq_true, Bool.true_eq_false, ↓reduceIte, decide_true, decide_false, Option.isNone_some, Option.isNone_none, Option.isSome_some, Option.isSome_none, beq_self_eq_true, bne_self_eq_false, Bool.and_true, Bool.true_and, Bool.and_false, Bool.false_and, not_true_eq_false, not_false_eq_true]

theorem any73 (h : Raw w D b c nq pq ns es next count) {a : Addr} (ha : w.cell? a = some (.pointer (some ⟨b, 0, none⟩))) {q : Sh} {l : List Int} (hu : SlC w 1 q (intsV l)) (hn : Names ns l) (hl : l.length ≤ 1000000000) :
    callF Try.prog 73 #[.slice q.1 q.2.1 q.2.2, .func (.func 74) #[] #[.pointer (some a)]] w = some (.bool (l.any (aliveB ns)), w) := by
  have hq := hu.1
  simp only [List.length_map, Nat.mul_one] at hq
  obtain ⟨e, t, w', g1, rfl, hQ⟩ := loopS_rule (b := g98x74_l2_b q a) (I := fun k s x => s = ((0 : Int), (k : Int)) ∧ x = w ∧ (l.take k).any (aliveB ns) = false)
    (Q := fun e s x => x = w ∧ (e = .ret ∧ 0 ≤ s.1 ∧ l.any (aliveB ns) = true ∨ e = .exit 0 ∧ l.any (aliveB ns) = false)) (n := l.length)
    (fun k s x hk ⟨hs, hx, hv⟩ => by
      subst hs hx
      obtain ⟨a', i1, c1⟩ := hu.get (i := k) (by simpa using hk)
      have k1 : decide ((k : Int) < (q.2.1 : Int)) = true := by simp; omega
      have c1' : x.cell? a' = some (.int .i64 l[k]) := by rw [c1]; simp
      have hw := wrap_succ (n := k) (by omega)
      have e74 := alive74 h ha (hn l[k] (List.getElem_mem hk))
      cases he : aliveB ns l[k] with
      | true =>
        rw [he] at e74
        refine ⟨.ret, ((k : Int), (k : Int)), x, ?_, .inr ⟨by simp, rfl, .inl ⟨rfl, by simp, List.any_eq_true.mpr ⟨_, List.getElem_mem hk, he⟩⟩⟩⟩
        unfold g98x74_l2_b
        simp only [k1, i1, c1', e74, obs, asP_pointer, asB_bool, asI_int, asS_string, asSl_slice, asM_map, asTup0, asTup1, asTup2, asTup3, asTup4, asTup5, asTup6, asTup7, asTup8, asTup9, asAgg2, asAgg3, asAgg4, asAgg5, asAgg6, asAgg7, asAgg8, asAgg9, asAgg12, getD0, getD1, getD2, getD3, getD4, getD5, getD6, getD7, getD8, getD9, getD10, getD11, getD12, getD13, getD14, getD15, getD16, getD17, getD18, getD19, Bool.not_true, Bool.not_false, Bool.false_eq_true, Bool.true_eq_false, ↓reduceIte, decide_true, decide_false, Option.isNone_some, Option.isNone_none, Option.isSome_some, Option.isSome_none, beq_self_eq_true, bne_self_eq_false, Bool.and_true, Bool.true_and, Bool.and_false, Bool.false_and, not_true_eq_false, not_false_eq_true]
      | false =>
        rw [he] at e74
        refine ⟨.normal, ((0 : Int), ((k + 1 : Nat) : Int)), x, ?_, .inl ⟨rfl, rfl, rfl, ?_⟩⟩
        · unfold g98x74_l2_b
          simp only [k1, i1, c1', e74, hw, obs, asP_pointer, asB_bool, asI_int, asS_string, asSl_slice, asM_map, asTup0, asTup1, asTup2, asTup3, asTup4, asTup5, asTup6, asTup7, asTup8, asTup9, asAgg2, asAgg3, asAgg4, asAgg5, asAgg6, asAgg7, asAgg8, asAgg9, asAgg12, getD0, getD1, getD2, getD3, getD4, getD5, getD6, getD7, getD8, getD9, getD10, getD11, getD12, getD13, getD14, getD15, getD16, getD17, getD18, getD19, Bool.not_true, Bool.not_false, Bool.false_eq_true, Bool.true_eq_false, ↓reduceIte, decide_true, decide_false, Option.isNone_some, Option.isNone_none, Option.isSome_some, Option.isSome_none, beq_self_eq_true, bne_self_eq_false, Bool.and_true, Bool.true_and, Bool.and_false, Bool.false_and, not_true_eq_false, not_false_eq_true]
        · rw [List.take_succ_eq_append_getElem hk, List.any_append, hv]; simp [he])
    (fun s x ⟨hs, hx, hv⟩ => by
      subst hs hx
      rw [List.take_length] at hv
      refine ⟨.exit 0, ((0 : Int), (l.length : Int)), x, ?_, by simp, rfl, .inr ⟨rfl, hv⟩⟩
      unfold g98x74_l2_b
      have k1 : decide ((l.length : Int) < (q.2.1 : Int)) = false := by simp; omega
      simp only [k1, Bool.false_eq_true, if_false]) (k := 0) (s := ((0 : Int), (0 : Int))) (w := w) (Nat.zero_le _) ⟨rfl, rfl, by simp⟩
  have fin : ∀ n : Int, callF Try.prog 98 #[.slice q.1 q.2.1 q.2.2, .func (.func 74) #[] #[.pointer (some a)]] w' = some (.int .i64 n, w') → decide (n ≥ 0) = l.any (aliveB ns) →
      callF Try.prog 73 #[.slice q.1 q.2.1 q.2.2, .func (.func 74) #[] #[.pointer (some a)]] w' = some (.bool (l.any (aliveB ns)), w') := by
    intro n e hn
    refine g73x74_call ?_
    unfold g73x74
    simp only [e, hn, obs, asP_pointer, asB_bool, asI_int, asS_string, asSl_slice, asM_map, asTup0, asTup1, asTup2, asTup3, asTup4, asTup5, asTup6, asTup7, asTup8, asTup9, asAgg2, asAgg3, asAgg4, asAgg5, asAgg6, asAgg7, asAgg8, asAgg9, asAgg12, getD0, getD1, getD2, getD3, getD4, getD5, getD6, getD7, getD8, getD9, getD10, getD11, getD12, getD13, getD14, getD15, getD16, getD17, getD18, getD19, Bool.not_true, Bool.not_false, Bool.false_eq_true, Bool.true_eq_false, ↓reduceIte, decide_true, decide_false, Option.isNone_some, Option.isNone_none, Option.isSome_some, Option.isSome_none, beq_self_eq_true, bne_self_eq_false, Bool.and_true, Bool.true_and, Bool.and_false, Bool.false_and, not_true_eq_false, not_false_eq_true]
  rcases hQ with ⟨rfl, h0, hv⟩ | ⟨rfl, hv⟩
  · refine fin t.1 (g98x74_call ?_) (by rw [hv]; simp [h0])
    unfold g98x74
    rw [g98x74_l2_ret_of g1, g98x74_l2_ret]
  · refine fin (-1) (g98x74_call ?_) (by rw [hv]; rfl)
    unfold g98x74
    rw [g98x74_l2_x0_of g1, g98x74_l2_x0]

theorem without_sub {l : List Int} {n x : Int} (h : x ∈ without l n) : x ∈ l := (List.mem_filter.mp h).1

/-- one partition -/
theorem fence_round {w w0 : World} {e : PE} {k : Nat} {n : Int} (h : Raw w D b c nq pq ns (es.set k e) next count) (hk : k < es.length) (hcap : w.cell? ⟨w0.heap.size, 0, none⟩ = some (.pointer (some ⟨b, 0, none⟩))) (hcd : ¬ D w0.heap.size) (hnm : Names ns e.v.isr) (hkl : es.length ≤ 1000) :
    ∃ D' e' w', g38_l22_b pq w0 n (k : Int) w = some (.normal, ((k + 1 : Nat) : Int), w') ∧ e'.v = fenceV ns n e.v ∧ Raw w' D' b c nq pq ns (es.set k e') next count ∧ Chg D w w' D' := by
  have hpl := h.plen
  simp only [List.length_set] at hpl
  have hk1 : k < (es.set k e).length := by simpa using hk
  obtain ⟨g, o, ha, hgb⟩ := h.part_addr hk1
  have hok := h.okAt hk
  have hlen := hok.len
  have p1 : w.cell? ⟨b, 1, none⟩ = some (.slice pq.1 pq.2.1 pq.2.2) := h.tbl.cell 1
  have c0 : w.cell? ⟨g, o, none⟩ = some (.int .i64 e.v.ld) := h.get hk ha (j := 0) (by decide)
  have c3 : w.cell? ⟨g, o + 3, none⟩ = some (.slice e.qi.1 e.qi.2.1 e.qi.2.2) := h.get hk ha (j := 3) (by decide)
  have e1 := contains32 hok.oi.slC (by omega) n
  have k0 : decide ((k : Int) < (pq.2.1 : Int)) = true := by simp; omega
  have hw := wrap_succ (n := k) (by omega)
  by_cases hm : n ∈ e.v.isr
  case neg =>
    have km : decide (n ∈ e.v.isr) = false := by simp [hm]
    refine ⟨D, e, w, ?_, by unfold fenceV; rw [if_neg hm], h, Chg.refl _ _⟩
    unfold g38_l22_b
    simp only [k0, hcap, addr_add, Nat.zero_add, p1, ha, c3, e1, km, hw, obs, asP_pointer, asB_bool, asI_int, asS_string, asSl_slice, asM_map, asTup0, asTup1, asTup2, asTup3, asTup4, asTup5, asTup6, asTup7, asTup8, asTup9, asAgg2, asAgg3, asAgg4, asAgg5, asAgg6, asAgg7, asAgg8, asAgg9, asAgg12, getD0, getD1, getD2, getD3, getD4, getD5, getD6, getD7, getD8, getD9, getD10, getD11, getD12, getD13, getD14, getD15, getD16, getD17, getD18, getD19, Bool.not_true, Bool.not_false, Bool.false_eq_true, Bool.true_eq_false, ↓reduceIte, decide_true, decide_false, Option.isNone_some, Option.isNone_none, Option.isSome_some, Option.isSome_none, beq_self_eq_true, bne_self_eq_false, Bool.and_true, Bool.true_and, Bool.and_false, Bool.false_and, not_true_eq_false, not_false_eq_true]
  have km : decide (n ∈ e.v.isr) = true := by simp [hm]
  obtain ⟨q2, w2, e2, o2, f2, n2⟩ := without72 hok.oi.slC (fun hn => (hok.oi.empty hn).2.1) (by omega) n
  have R2 := h.fr f2 (by simp)
  have hltc : w0.heap.size < w.heap.size := by
    have := World.block_lt_of_cell? w _ hcap
    exact this
  have hcap2 : w2.cell? ⟨w0.heap.size, 0, none⟩ = some (.pointer (some ⟨b, 0, none⟩)) := by
    rw [cell_of_blk_eq (f2.keep _ hltc (by simp))]; exact hcap
  have hrl := without_len e.v.isr n
  have e3 := any73 R2 hcap2 o2.slC (fun x hx => hnm x (without_sub hx)) (by omega)
  have hcapf : ∀ {x y : World}, x.cell? ⟨w0.heap.size, 0, none⟩ = some (.pointer (some ⟨b, 0, none⟩)) → w.heap.size ≤ x.heap.size → Fr (blkOf pq) x y → y.cell? ⟨w0.heap.size, 0, none⟩ = some (.pointer (some ⟨b, 0, none⟩)) := by
    intro x y hx hz f
    have hlt : w0.heap.size < x.heap.size := World.block_lt_of_cell? x _ hx
    rw [cell_of_blk_eq (f.keep _ hlt (fun hmm => hcd (h.rp _ hmm)))]; exact hx
  cases hany : (without e.v.isr n).any (aliveB ns) with
  | true =>
    rw [hany] at e3
    let D' : Nat → Prop := fun y => D y ∨ y ∈ blkOf q2
    have hDD : ∀ y, D y → D' y := fun y hy => .inl hy
    have lt2 : ∀ y, D' y → y < w2.heap.size := fun y hy => by
      rcases hy with hy | hy
      · exact R2.lt y hy
      · exact o2.lt y hy
    have R2' := R2.grow hDD lt2
    have ok2 := R2'.okAt hk
    obtain ⟨w3, s3, R3, f3⟩ := R2'.put hk ha (j := 3) (by decide) (D' := D') { e with v := { e.v with isr := without e.v.isr n }, qi := q2 } (.slice q2.1 q2.2.1 q2.2.2) rfl rfl (fun _ => id) ⟨o2, ok2.or_, ok2.ot, ⟨fun y hy => .inr hy, ok2.reg.2.1, ok2.reg.2.2⟩, ⟨by show (without e.v.isr n).length ≤ _; omega, ok2.len.2.1, ok2.len.2.2⟩⟩ lt2
    have ok3 := R3.okAt hk
    have v2 : w3.cell? ⟨g, o + 2, none⟩ = some (.int .i64 e.v.vr) := R3.get hk ha (j := 2) (by decide)
    obtain ⟨w4, s4, R4, f4⟩ := R3.put hk ha (j := 2) (by decide) (D' := D') { e with v := { e.v with isr := without e.v.isr n, vr := IntKind.i64.wrap (e.v.vr + 1) }, qi := q2 } (.int .i64 (IntKind.i64.wrap (e.v.vr + 1))) rfl rfl (fun _ => id) ⟨ok3.oi, ok3.or_, ok3.ot, ok3.reg, ok3.len⟩ R3.lt
    have t0 : w4.cell? ⟨g, o, none⟩ = some (.int .i64 e.v.ld) := R4.get hk ha (j := 0) (by decide)
    have f24 : Fr (blkOf pq) w2 w4 := (f3.app f4).mono (by intro y hy _; simpa using hy)
    have hcap4 := hcapf hcap2 f2.size f24
    have F4 : Fr (blkOf pq) w w4 := (f2.app f24).mono (by intro y hy _; simpa using hy)
    have hnew : ∀ y, D' y → D y ∨ w.heap.size ≤ y := fun y hy => by
      rcases hy with hy | hy
      · exact .inl hy
      · exact .inr (n2 y hy)
    by_cases hld : e.v.ld = n
    · have kl : (e.v.ld == n) = true := by simp [hld]
      obtain ⟨w5, e5, R5, f5⟩ := R4.elect hk ha (fun x hx => hnm x (without_sub hx))
      refine ⟨D', _, w5, ?_, ?_, R5, chgP (F4.trans f5) (fun y hy _ => h.rp y hy) hDD hnew⟩
      · unfold g38_l22_b
        simp only [k0, hcap, addr_add, Nat.zero_add, p1, ha, c3, e1, km, e2, e3, s3, v2, s4, t0, kl, hcap4, e5, hw, obs, asP_pointer, asB_bool, asI_int, asS_string, asSl_slice, asM_map, asTup0, asTup1, asTup2, asTup3, asTup4, asTup5, asTup6, asTup7, asTup8, asTup9, asAgg2, asAgg3, asAgg4, asAgg5, asAgg6, asAgg7, asAgg8, asAgg9, asAgg12, getD0, getD1, getD2, getD3, getD4, getD5, getD6, getD7, getD8, getD9, getD10, getD11, getD12, getD13, getD14, getD15, getD16, getD17, getD18, getD19, Bool.not_true, Bool.not_false, Bool.false_eq_true, Bool.true_eq_false, ↓reduceIte, decide_true, decide_false, Option.isNone_some, Option.isNone_none, Option.isSome_some, Option.isSome_none, beq_self_eq_true, bne_self_eq_false, Bool.and_true, Bool.true_and, Bool.and_false, Bool.false_and, not_true_eq_false, not_false_eq_true]
      · unfold fenceV; rw [if_pos hm, if_pos hld, hany]; rfl
    · have kl : (e.v.ld == n) = false := by simp [hld]
      refine ⟨D', _, w4, ?_, ?_, R4, chgP F4 (fun y hy _ => h.rp y hy) hDD hnew⟩
      · unfold g38_l22_b
        simp only [k0, hcap, addr_add, Nat.zero_add, p1, ha, c3, e1, km, e2, e3, s3, v2, s4, t0, kl, hw, obs, asP_pointer, asB_bool, asI_int, asS_string, asSl_slice, asM_map, asTup0, asTup1, asTup2, asTup3, asTup4, asTup5, asTup6, asTup7, asTup8, asTup9, asAgg2, asAgg3, asAgg4, asAgg5, asAgg6, asAgg7, asAgg8, asAgg9, asAgg12, getD0, getD1, getD2, getD3, getD4, getD5, getD6, getD7, getD8, getD9, getD10, getD11, getD12, getD13, getD14, getD15, getD16, getD17, getD18, getD19, Bool.not_true, Bool.not_false, Bool.false_eq_true, Bool.true_eq_false, ↓reduceIte, decide_true, decide_false, Option.isNone_some, Option.isNone_none, Option.isSome_some, Option.isSome_none, beq_self_eq_true, bne_self_eq_false, Bool.and_true, Bool.true_and, Bool.and_false, Bool.false_and, not_true_eq_false, not_false_eq_true]
      · unfold fenceV; rw [if_pos hm, if_neg hld, hany]; rfl
  | false =>
    rw [hany] at e3
    have t0 : w2.cell? ⟨g, o, none⟩ = some (.int .i64 e.v.ld) := R2.get hk ha (j := 0) (by decide)
    by_cases hld : e.v.ld = n
    · have kl : (e.v.ld == n) = true := by simp [hld]
      obtain ⟨w5, e5, R5, f5⟩ := R2.elect hk ha hnm
      refine ⟨D, _, w5, ?_, ?_, R5, chgP (f2.app f5) (fun y hy _ => by simp at hy; exact h.rp y hy) (fun _ => id) (fun y hy => .inl hy)⟩
      · unfold g38_l22_b
        simp only [k0, hcap, addr_add, Nat.zero_add, p1, ha, c3, e1, km, e2, e3, t0, kl, hcap2, e5, hw, obs, asP_pointer, asB_bool, asI_int, asS_string, asSl_slice, asM_map, asTup0, asTup1, asTup2, asTup3, asTup4, asTup5, asTup6, asTup7, asTup8, asTup9, asAgg2, asAgg3, asAgg4, asAgg5, asAgg6, asAgg7, asAgg8, asAgg9, asAgg12, getD0, getD1, getD2, getD3, getD4, getD5, getD6, getD7, getD8, getD9, getD10, getD11, getD12, getD13, getD14, getD15, getD16, getD17, getD18, getD19, Bool.not_true, Bool.not_false, Bool.false_eq_true, Bool.true_eq_false, ↓reduceIte, decide_true, decide_false, Option.isNone_some, Option.isNone_none, Option.isSome_some, Option.isSome_none, beq_self_eq_true, bne_self_eq_false, Bool.and_true, Bool.true_and, Bool.and_false, Bool.false_and, not_true_eq_false, not_false_eq_true]
      · unfold fenceV; rw [if_pos hm, if_pos hld, hany]; rfl
    · have kl : (e.v.ld == n) = false := by simp [hld]
      refine ⟨D, e, w2, ?_, ?_, R2, chg_fr f2 (Chg.refl _ _)⟩
      · unfold g38_l22_b
        simp only [k0, hcap, addr_add, Nat.zero_add, p1, ha, c3, e1, km, e2, e3, t0, kl, hw, obs, asP_pointer, asB_bool, asI_int, asS_string, asSl_slice, asM_map, asTup0, asTup1, asTup2, asTup3, asTup4, asTup5, asTup6, asTup7, asTup8, asTup9, asAgg2, asAgg3, asAgg4, asAgg5, asAgg6, asAgg7, asAgg8, asAgg9, asAgg12, getD0, getD1, getD2, getD3, getD4, getD5, getD6, getD7, getD8, getD9, getD10, getD11, getD12, getD13, getD14, getD15, getD16, getD17, getD18, getD19, Bool.not_true, Bool.not_false, Bool.false_eq_true, Bool.true_eq_false, ↓reduceIte, decide_true, decide_false, Option.isNone_some, Option.isNone_none, Option.isSome_some, Option.isSome_none, beq_self_eq_true, bne_self_eq_false, Bool.and_true, Bool.true_and, Bool.and_false, Bool.false_and, not_true_eq_false, not_false_eq_true]
      · unfold fenceV; rw [if_pos hm, if_neg hld, hany]; rfl

theorem fence38 (h : Raw w D b c nq pq ns es next count) {n : Nat} (hn : n < ns.length) (hnm : ∀ e ∈ es, Names ns e.v.isr) (hel : es.length ≤ 1000) :
    ∃ D' es' w', callF Try.prog 38 #[.pointer (some ⟨b, 0, none⟩), .int .i64 (n : Int)] w = some (.int .i64 (if ns[n].al then 0 else 4), w') ∧
      Raw w' D' b c nq pq (if ns[n].al then ns.set n { ns[n] with al := false } else ns) es' next count ∧ es'.map (·.v) = (if ns[n].al then (es.map (·.v)).map (fenceV (ns.set n { ns[n] with al := false }) (n : Int)) else es.map (·.v)) ∧ Chg D w w' D' := by
  have fa : Fr [] w (w.alloc (.cells #[.pointer (some ⟨b, 0, none⟩)] 23)) := Fr.alloc _
  have ba : Blk (w.alloc (.cells #[.pointer (some ⟨b, 0, none⟩)] 23)) w.heap.size [.pointer (some ⟨b, 0, none⟩)] 23 := Blk.new w [.pointer (some ⟨b, 0, none⟩)] 23
  obtain ⟨w1, hw1⟩ : ∃ w1, w.alloc (.cells #[.pointer (some ⟨b, 0, none⟩)] 23) = w1 := ⟨_, rfl⟩
  rw [hw1] at fa ba
  have h1 := h.fr fa (by simp)
  have z0 : w1.cell? ⟨w.heap.size, 0, none⟩ = some (.pointer (some ⟨b, 0, none⟩)) := ba.cell 0
  have c0 : w1.cell? ⟨b, 0, none⟩ = some (.slice nq.1 nq.2.1 nq.2.2) := h1.tbl.cell 0
  obtain ⟨a, i1, r0, _, _⟩ := h1.node_at hn
  have hcd : ¬ D w.heap.size := fun hd => by have := h.lt _ hd; omega
  cases hal : ns[n].al with
  | false =>
    rw [hal] at r0
    refine ⟨D, es, w1, g38_call ?_, by simpa using h1, by simp, chg_fr fa (Chg.refl _ _)⟩
    unfold g38
    simp only [hw1, z0, c0, i1, r0, obs, asP_pointer, asB_bool, asI_int, asS_string, asSl_slice, asM_map, asTup0, asTup1, asTup2, asTup3, asTup4, asTup5, asTup6, asTup7, asTup8, asTup9, asAgg2, asAgg3, asAgg4, asAgg5, asAgg6, asAgg7, asAgg8, asAgg9, asAgg12, getD0, getD1, getD2, getD3, getD4, getD5, getD6, getD7, getD8, getD9, getD10, getD11, getD12, getD13, getD14, getD15, getD16, getD17, getD18, getD19, Bool.not_true, Bool.not_false, Bool.false_eq_true, Bool.true_eq_false, ↓reduceIte, decide_true, decide_false, Option.isNone_some, Option.isNone_none, Option.isSome_some, Option.isSome_none, beq_self_eq_true, bne_self_eq_false, Bool.and_true, Bool.true_and, Bool.and_false, Bool.false_and, not_true_eq_false, not_false_eq_true]
  | true =>
    rw [hal] at r0
    obtain ⟨a1, w2, j1, s1, R2, f2⟩ := h1.setN hn (j := 0) (by decide) { ns[n] with al := false } (.bool false) rfl rfl
    rw [i1] at j1
    cases j1
    have s1' : st1 w1 a (.bool false) = some w2 := by
      have : Addr.add a 0 = a := by unfold Addr.add; simp
      rw [this] at s1; exact s1
    obtain ⟨ns', hns'⟩ : ∃ ns', ns.set n { ns[n] with al := false } = ns' := ⟨_, rfl⟩
    rw [hns'] at R2 ⊢
    have hnl : ns'.length = ns.length := by rw [← hns']; simp
    have hnm' : ∀ e ∈ es, Names ns' e.v.isr := fun e he x hx => by rw [hnl]; exact hnm e he x hx
    have ba2 := ba.fr f2 (fun hm => hcd (h.rn _ hm))
    have z2 : w2.cell? ⟨w.heap.size, 0, none⟩ = some (.pointer (some ⟨b, 0, none⟩)) := ba2.cell 0
    have p1 : w2.cell? ⟨b, 1, none⟩ = some (.slice pq.1 pq.2.1 pq.2.2) := R2.tbl.cell 1
    have hpl := R2.plen
    have hz1 := ba2.lt
    obtain ⟨t, w3, g1, rfl, D', es', R3, hl3, hb3, _, C3⟩ := loopS_countX 0 (b := g38_l22_b pq w (n : Int)) (n := es.length)
      (I := fun k s x => s = (k : Int) ∧ ∃ D' es', Raw x D' b c nq pq ns' es' next count ∧ es'.length = es.length ∧ (∀ i (hi : i < es.length) (hi' : i < es'.length), i < k → es'[i].v = fenceV ns' (n : Int) es[i].v) ∧ (∀ i (hi : i < es.length) (hi' : i < es'.length), k ≤ i → es'[i] = es[i]) ∧ Chg D w2 x D')
      (fun k s x hk ⟨hs, D', es', R, hl, hb, hr, C⟩ => by
        subst hs
        have hk' : k < es'.length := by omega
        have hek := hr k hk hk' (Nat.le_refl _)
        have Rk : Raw x D' b c nq pq ns' (es'.set k es[k]) next count := by rw [← hek, List.set_getElem_self]; exact R
        obtain ⟨S, fS, hS⟩ := C.fr
        have zx : x.cell? ⟨w.heap.size, 0, none⟩ = some (.pointer (some ⟨b, 0, none⟩)) := (ba2.fr fS (fun hm => hcd (hS _ hm))).cell 0
        have hcx : ¬ D' w.heap.size := fun hd => by
          rcases C.new _ hd with hh | hh
          · exact hcd hh
          · omega
        obtain ⟨D2, e2, x2, e, hv, R', C'⟩ := fence_round (w0 := w) (n := (n : Int)) Rk hk' zx hcx (hnm' _ (List.getElem_mem hk)) (by omega)
        refine ⟨_, x2, e, rfl, D2, es'.set k e2, R', by simpa using hl, fun i hi hi' hik => ?_, fun i hi hi' hik => ?_, C.trans C' (fun y hy => R2.lt y hy)⟩
        · rw [List.getElem_set]
          split
          · rename_i he; subst he; exact hv
          · exact hb i hi (by simpa using hi') (by omega)
        · rw [List.getElem_set]
          split
          · omega
          · exact hr i hi (by simpa using hi') (by omega))
      (fun s x ⟨hs, _⟩ => by
        subst hs
        unfold g38_l22_b
        have k0 : decide ((es.length : Int) < (pq.2.1 : Int)) = false := by simp; omega
        simp only [k0, Bool.false_eq_true, if_false]) (k := 0) (s := 0) (w := w2) (Nat.zero_le _) ⟨rfl, D, es, R2, rfl, fun i hi hi' hik => absurd hik (by omega), fun i hi hi' _ => rfl, Chg.refl _ _⟩
    refine ⟨D', es', w3, g38_call ?_, by simpa using R3, ?_, chg_fr2 (fa.app f2) (fun y hy _ => by simp at hy; exact h.rn y hy) C3⟩
    · unfold g38
      simp only [hw1, z0, c0, i1, r0, s1', z2, addr_add, Nat.zero_add, p1, obs, asP_pointer, asB_bool, asI_int, asS_string, asSl_slice, asM_map, asTup0, asTup1, asTup2, asTup3, asTup4, asTup5, asTup6, asTup7, asTup8, asTup9, asAgg2, asAgg3, asAgg4, asAgg5, asAgg6, asAgg7, asAgg8, asAgg9, asAgg12, getD0, getD1, getD2, getD3, getD4, getD5, getD6, getD7, getD8, getD9, getD10, getD11, getD12, getD13, getD14, getD15, getD16, getD17, getD18, getD19, Bool.not_true, Bool.not_false, Bool.false_eq_true, Bool.true_eq_false, ↓reduceIte, decide_true, decide_false, Option.isNone_some, Option.isNone_none, Option.isSome_some, Option.isSome_none, beq_self_eq_true, bne_self_eq_false, Bool.and_true, Bool.true_and, Bool.and_false, Bool.false_and, not_true_eq_false, not_false_eq_true]
      rw [g38_l22_x0_of g1, g38_l22_x0]
    · simp only [if_true]
      apply List.ext_getElem
      · simp [hl3]
      · intro i h1 h2
        simp only [List.length_map] at h1 h2
        simp only [List.getElem_map]
        exact hb3 i h2 h1 h2
end
end Go.Proofs.Ytjcenfgmpbeldaa
