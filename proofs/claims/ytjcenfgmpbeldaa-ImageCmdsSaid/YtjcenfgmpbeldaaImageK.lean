/-
  ImageK: lemmas on what Go functions of this seat come to (for whatever arguments, as each says). No condition but those that stand in each lemma.
-/
import Derived.Test.YtjcenfgmpbeldaaImageJ
namespace Go.Proofs.Ytjcenfgmpbeldaa
open Go Go.Ev
set_option maxRecDepth 100000
set_option linter.unusedVariables false
set_option linter.unusedSimpArgs false

def aliveB (ns : List NV) (n : Int) : Bool := match ns[n.toNat]? with | some x => x.al | none => false
/-- a partition whose leader is chosen anew -/
def electV (ns : List NV) (v : PV) : PV := { v with ld := (v.isr.find? (aliveB ns)).getD (-1), ep := IntKind.i64.wrap (v.ep + 1) }
/-- names only such nodes as there are -/
def Names (ns : List NV) (l : List Int) : Prop := ∀ n ∈ l, 0 ≤ n ∧ n < ns.length

section
variable {w : World} {D : Nat → Prop} {b c : Nat} {nq pq : Sh} {ns : List NV} {es : List PE} {next count : Int}

theorem Raw.part_addr (h : Raw w D b c nq pq ns es next count) {k : Nat} (hk : k < es.length) : ∃ g o, idxA pq.1 pq.2.1 6 (k : Int) = some ⟨g, o, none⟩ ∧ g ∈ blkOf pq := by
  obtain ⟨g, off, q1, i1, _⟩ := row_at (f := PE.cs) pef_len (by decide) h.pt (ptCs_len es) hk
  exact ⟨g, _, i1, by simp [blkOf, q1]⟩
theorem Raw.part_cell (h : Raw w D b c nq pq ns es next count) {k : Nat} (hk : k < es.length) {g o : Nat} (ha : idxA pq.1 pq.2.1 6 (k : Int) = some ⟨g, o, none⟩) {j : Nat} (hj : j < 6) : w.cell? ⟨g, o + j, none⟩ = (es[k].cs)[j]? := by
  obtain ⟨g', off, q1, i1, r1, _⟩ := row_at (f := PE.cs) pef_len (by decide) h.pt (ptCs_len es) hk
  rw [i1] at ha
  cases ha
  exact r1 j hj
theorem Raw.part_put (h : Raw w D b c nq pq ns es next count) {k : Nat} (hk : k < es.length) {g o : Nat} (ha : idxA pq.1 pq.2.1 6 (k : Int) = some ⟨g, o, none⟩) {j : Nat} (hj : j < 6) {D' : Nat → Prop} (e' : PE) (v : Value) (hv : v.oneCell' = true) (he : e'.cs = es[k].cs.set j v) (hD : ∀ y, D y → D' y) (ok' : PeOk w D' e') (lt' : ∀ y, D' y → y < w.heap.size) :
    ∃ w', st1 w ⟨g, o + j, none⟩ v = some w' ∧ Raw w' D' b c nq pq ns (es.set k e') next count ∧ Fr (blkOf pq) w w' := by
  obtain ⟨a, w', i1, s1, R, f⟩ := h.setP hk hj e' v hv he hD ok' lt'
  rw [i1] at ha
  cases ha
  rw [addr_add] at s1
  exact ⟨w', s1, R, f⟩

theorem elect71 (h : Raw w D b c nq pq ns es next count) {k : Nat} (hk : k < es.length) {g o : Nat} (ha : idxA pq.1 pq.2.1 6 (k : Int) = some ⟨g, o, none⟩) (hn : Names ns es[k].v.isr) :
    ∃ w', callF Try.prog 71 #[.pointer (some ⟨b, 0, none⟩), .pointer (some ⟨g, o, none⟩)] w = some (.tuple #[], w') ∧ Raw w' D b c nq pq ns (es.set k { es[k] with v := electV ns es[k].v }) next count ∧ Fr (blkOf pq) w w' := by
  have hok := h.ok es[k] (List.getElem_mem hk)
  obtain ⟨pe, hpe⟩ : ∃ pe, es[k] = pe := ⟨_, rfl⟩
  obtain ⟨w1, s1, R1, f1⟩ := h.part_put hk ha (j := 0) (by decide) { es[k] with v := { es[k].v with ld := -1 } } (.int .i64 (-1)) rfl rfl (fun _ => id) ⟨hok.oi, hok.or_, hok.ot, hok.reg, hok.len⟩ h.lt
  rw [hpe] at hok hn R1 ⊢
  have hk1 : k < (es.set k { pe with v := { pe.v with ld := -1 } }).length := by simpa using hk
  have hget : (es.set k { pe with v := { pe.v with ld := -1 } })[k] = { pe with v := { pe.v with ld := -1 } } := by simp
  have c3 := R1.part_cell hk1 ha (j := 3) (by decide)
  rw [hget] at c3
  have c3' : w1.cell? ⟨g, o + 3, none⟩ = some (.slice pe.qi.1 pe.qi.2.1 pe.qi.2.2) := c3
  have hok1 := R1.ok _ (List.getElem_mem hk1)
  rw [hget] at hok1
  have oi := hok1.oi
  have hlen := oi.len
  simp only [intsV', List.length_map] at hlen
  have hlen : pe.v.isr.length = pe.qi.2.1 * 1 := hlen
  have hl1 : pe.v.isr.length ≤ 1000000000 := hok1.len.1
  -- the loop
  obtain ⟨e, t, w2, g1, rfl, R2, f2⟩ := loopS_rule (b := g71_l7_b pe.qi (some ⟨b, 0, none⟩) (some ⟨g, o, none⟩)) (I := fun j s x => s = (j : Int) ∧ x = w1 ∧ ∀ n ∈ pe.v.isr.take j, aliveB ns n = false)
    (Q := fun e s x => e = .exit 0 ∧ Raw x D b c nq pq ns (es.set k { pe with v := { pe.v with ld := (pe.v.isr.find? (aliveB ns)).getD (-1) } }) next count ∧ Fr (blkOf pq) w1 x) (n := pe.v.isr.length)
    (fun j s x hj ⟨hs, hx, hno⟩ => by
      subst hs hx
      obtain ⟨a, i1, ci⟩ := oi.slC.get (i := j) (by simpa using hj)
      have ci' : x.cell? a = some (.int .i64 pe.v.isr[j]) := by rw [ci]; simp
      have hnj := hn pe.v.isr[j] (List.getElem_mem hj)
      have hnl : pe.v.isr[j].toNat < ns.length := by omega
      obtain ⟨a2, i2, r0, _, _⟩ := R1.node_at hnl
      have hnn : ((pe.v.isr[j].toNat : Nat) : Int) = pe.v.isr[j] := by omega
      rw [hnn] at i2
      have hal : aliveB ns pe.v.isr[j] = ns[pe.v.isr[j].toNat].al := by unfold aliveB; rw [List.getElem?_eq_getElem hnl]
      have c0 : x.cell? ⟨b, 0, none⟩ = some (.slice nq.1 nq.2.1 nq.2.2) := R1.tbl.cell 0
      have k0 : decide ((j : Int) < (pe.qi.2.1 : Int)) = true := by simp; omega
      have hw := wrap_succ (n := j) (by omega)
      cases hb : ns[pe.v.isr[j].toNat].al with
      | true =>
        rw [hb] at r0 hal
        obtain ⟨w2, s2, R2, f2⟩ := R1.part_put hk1 ha (j := 0) (by decide) { pe with v := { pe.v with ld := pe.v.isr[j] } } (.int .i64 pe.v.isr[j]) rfl (by rw [hget]; rfl) (fun _ => id) ⟨hok1.oi, hok1.or_, hok1.ot, hok1.reg, hok1.len⟩ R1.lt
        rw [List.set_set] at R2
        have hfind : pe.v.isr.find? (aliveB ns) = some pe.v.isr[j] := by
          have hsp : pe.v.isr = pe.v.isr.take j ++ pe.v.isr[j] :: pe.v.isr.drop (j + 1) := by
            rw [← List.drop_eq_getElem_cons hj, List.take_append_drop]
          conv => lhs; rw [hsp]
          rw [List.find?_append, List.find?_cons_of_pos hal]
          have : (pe.v.isr.take j).find? (aliveB ns) = none := by rw [List.find?_eq_none]; intro n hn'; simp [hno n hn']
          rw [this]; rfl
        refine ⟨.exit 0, (j : Int), w2, ?_, .inr ⟨by simp, rfl, by rw [hfind]; exact R2, f2⟩⟩
        have s2' : st1 x ⟨g, o, none⟩ (.int .i64 pe.v.isr[j]) = some w2 := s2
        unfold g71_l7_b
        simp only [k0, i1, ci', c0, i2, r0, s2', obs, asP_pointer, asB_bool, asI_int, asS_string, asSl_slice, asM_map, asTup0, asTup1, asTup2, asTup3, asTup4, asTup5, asTup6, asTup7, asTup8, asTup9, asAgg2, asAgg3, asAgg4, asAgg5, asAgg6, asAgg7, asAgg8, asAgg9, asAgg12, getD0, getD1, getD2, getD3, getD4, getD5, getD6, getD7, getD8, getD9, getD10, getD11, getD12, getD13, getD14, getD15, getD16, getD17, getD18, getD19, Bool.not_true, Bool.not_false, Bool.false_eq_true, Bool.true_eq_false, ↓reduceIte, decide_true, decide_false, Option.isNone_some, Option.isNone_none, Option.isSome_some, Option.isSome_none, beq_self_eq_true, bne_self_eq_false, Bool.and_true, Bool.true_and, Bool.and_false, Bool.false_and, not_true_eq_false, not_false_eq_true]
      | false =>
        rw [hb] at r0 hal
        refine ⟨.normal, ((j + 1 : Nat) : Int), x, ?_, .inl ⟨rfl, rfl, rfl, fun n hn' => ?_⟩⟩
        · unfold g71_l7_b
          simp only [k0, i1, ci', c0, i2, r0, hw, obs, asP_pointer, asB_bool, asI_int, asS_string, asSl_slice, asM_map, asTup0, asTup1, asTup2, asTup3, asTup4, asTup5, asTup6, asTup7, asTup8, asTup9, asAgg2, asAgg3, asAgg4, asAgg5, asAgg6, asAgg7, asAgg8, asAgg9, asAgg12, getD0, getD1, getD2, getD3, getD4, getD5, getD6, getD7, getD8, getD9, getD10, getD11, getD12, getD13, getD14, getD15, getD16, getD17, getD18, getD19, Bool.not_true, Bool.not_false, Bool.false_eq_true, Bool.true_eq_false, ↓reduceIte, decide_true, decide_false, Option.isNone_some, Option.isNone_none, Option.isSome_some, Option.isSome_none, beq_self_eq_true, bne_self_eq_false, Bool.and_true, Bool.true_and, Bool.and_false, Bool.false_and, not_true_eq_false, not_false_eq_true]
        · rw [List.take_succ_eq_append_getElem hj] at hn'
          rcases List.mem_append.mp hn' with hn' | hn'
          · exact hno n hn'
          · simp only [List.mem_singleton] at hn'; rw [hn']; exact hal)
    (fun s x ⟨hs, hx, hno⟩ => by
      subst hs hx
      rw [List.take_length] at hno
      have hfind : pe.v.isr.find? (aliveB ns) = none := by rw [List.find?_eq_none]; intro n hn'; simp [hno n hn']
      refine ⟨.exit 0, (pe.v.isr.length : Int), x, ?_, by simp, rfl, by rw [hfind]; exact R1, Fr.refl _ _⟩
      have k0 : decide ((pe.v.isr.length : Int) < (pe.qi.2.1 : Int)) = false := by simp; omega
      unfold g71_l7_b
      simp only [k0, Bool.false_eq_true, if_false]) (k := 0) (s := 0) (w := w1) (Nat.zero_le _) ⟨rfl, rfl, by simp⟩
  have hk2 : k < (es.set k { pe with v := { pe.v with ld := (pe.v.isr.find? (aliveB ns)).getD (-1) } }).length := by simpa using hk
  have hget2 : (es.set k { pe with v := { pe.v with ld := (pe.v.isr.find? (aliveB ns)).getD (-1) } })[k] = { pe with v := { pe.v with ld := (pe.v.isr.find? (aliveB ns)).getD (-1) } } := by simp
  have c1 := R2.part_cell hk2 ha (j := 1) (by decide)
  rw [hget2] at c1
  have c1' : w2.cell? ⟨g, o + 1, none⟩ = some (.int .i64 pe.v.ep) := c1
  have hok2 := R2.ok _ (List.getElem_mem hk2)
  rw [hget2] at hok2
  obtain ⟨w3, s3, R3, f3⟩ := R2.part_put hk2 ha (j := 1) (by decide) { pe with v := electV ns pe.v } (.int .i64 (IntKind.i64.wrap (pe.v.ep + 1))) rfl (by rw [hget2]; rfl) (fun _ => id) ⟨hok2.oi, hok2.or_, hok2.ot, hok2.reg, hok2.len⟩ R2.lt
  rw [List.set_set] at R3
  refine ⟨w3, g71_call ?_, R3, ((f1.app f2).app f3).mono (by intro y hy _; simpa using hy)⟩
  have s1' : st1 w ⟨g, o, none⟩ (.int .i64 (-1)) = some w1 := s1
  unfold g71
  simp only [s1', addr_add, c3', obs, asP_pointer, asB_bool, asI_int, asS_string, asSl_slice, asM_map, asTup0, asTup1, asTup2, asTup3, asTup4, asTup5, asTup6, asTup7, asTup8, asTup9, asAgg2, asAgg3, asAgg4, asAgg5, asAgg6, asAgg7, asAgg8, asAgg9, asAgg12, getD0, getD1, getD2, getD3, getD4, getD5, getD6, getD7, getD8, getD9, getD10, getD11, getD12, getD13, getD14, getD15, getD16, getD17, getD18, getD19, Bool.not_true, Bool.not_false, Bool.false_eq_true, Bool.true_eq_false, ↓reduceIte, decide_true, decide_false, Option.isNone_some, Option.isNone_none, Option.isSome_some, Option.isSome_none, beq_self_eq_true, bne_self_eq_false, Bool.and_true, Bool.true_and, Bool.and_false, Bool.false_and, not_true_eq_false, not_false_eq_true]
  rw [g71_l7_x0_of g1]
  unfold g71_l7_x0
  simp only [addr_add, c1', s3, obs, asP_pointer, asB_bool, asI_int, asS_string, asSl_slice, asM_map, asTup0, asTup1, asTup2, asTup3, asTup4, asTup5, asTup6, asTup7, asTup8, asTup9, asAgg2, asAgg3, asAgg4, asAgg5, asAgg6, asAgg7, asAgg8, asAgg9, asAgg12, getD0, getD1, getD2, getD3, getD4, getD5, getD6, getD7, getD8, getD9, getD10, getD11, getD12, getD13, getD14, getD15, getD16, getD17, getD18, getD19, Bool.not_true, Bool.not_false, Bool.false_eq_true, Bool.true_eq_false, ↓reduceIte, decide_true, decide_false, Option.isNone_some, Option.isNone_none, Option.isSome_some, Option.isSome_none, beq_self_eq_true, bne_self_eq_false, Bool.and_true, Bool.true_and, Bool.and_false, Bool.false_and, not_true_eq_false, not_false_eq_true]
end
end Go.Proofs.Ytjcenfgmpbeldaa
