/-
  ImageP: lemmas on what Go functions of this seat come to (for whatever arguments, as each says). No condition but those that stand in each lemma.
-/
import Derived.Test.YtjcenfgmpbeldaaImageO
namespace Go.Proofs.Ytjcenfgmpbeldaa
open Go Go.Ev
set_option maxRecDepth 100000
set_option linter.unusedVariables false
set_option linter.unusedSimpArgs false

/-! ## lists of nodes that rise -/
def upB (n : Int) : Int → List Int → Bool
  | _, [] => true
  | last, x :: r => decide (last < x ∧ x < n) && upB n x r
def sortedI (n : Nat) (l : List Int) : Prop := l ≠ [] ∧ upB n (-1) l = true
instance (n : Nat) (l : List Int) : Decidable (sortedI n l) := by unfold sortedI; exact inferInstance
theorem upB_spec {n : Int} : ∀ {l : List Int} {x : Int}, upB n x l = true → (∀ y ∈ l, x < y ∧ y < n) ∧ l.Pairwise (· < ·)
  | [], _, _ => ⟨by simp, List.Pairwise.nil⟩
  | z :: l, x, h => by
    unfold upB at h
    simp only [Bool.and_eq_true, decide_eq_true_eq] at h
    obtain ⟨h1, h2⟩ := upB_spec h.2
    refine ⟨fun y hy => ?_, ?_⟩
    · rcases List.mem_cons.mp hy with rfl | hy
      · exact h.1
      · have := h1 y hy; omega
    · rw [List.pairwise_cons]; exact ⟨fun y hy => (h1 y hy).1, h2⟩
theorem upB_of {n : Int} : ∀ {l : List Int} {x : Int}, (∀ y ∈ l, x < y ∧ y < n) → l.Pairwise (· < ·) → upB n x l = true
  | [], _, _, _ => rfl
  | z :: l, x, h, hp => by
    unfold upB
    rw [List.pairwise_cons] at hp
    have h1 := h z (by simp)
    rw [upB_of (x := z) (fun y hy => ⟨hp.1 y hy, (h y (by simp [hy])).2⟩) hp.2]
    simp [h1]
theorem sortedI_iff {n : Nat} {l : List Int} : sortedI n l ↔ l ≠ [] ∧ (∀ y ∈ l, 0 ≤ y ∧ y < (n : Int)) ∧ l.Pairwise (· < ·) := by
  unfold sortedI
  constructor
  · rintro ⟨h1, h2⟩
    obtain ⟨h3, h4⟩ := upB_spec h2
    exact ⟨h1, fun y hy => by have := h3 y hy; omega, h4⟩
  · rintro ⟨h1, h2, h3⟩
    exact ⟨h1, upB_of (fun y hy => by have := h2 y hy; omega) h3⟩
theorem up_len : ∀ {l : List Int} {a n : Int}, (∀ y ∈ l, a ≤ y ∧ y < n) → l.Pairwise (· < ·) → (l.length : Int) ≤ max 0 (n - a)
  | [], _, _, _, _ => by simp only [List.length_nil]; omega
  | z :: l, a, n, h, hp => by
    rw [List.pairwise_cons] at hp
    have h1 := h z (by simp)
    have := up_len (l := l) (a := z + 1) (n := n) (fun y hy => by have := hp.1 y hy; have := h y (by simp [hy]); omega) hp.2
    simp only [List.length_cons]; omega
theorem sortedI_len {n : Nat} {l : List Int} (h : sortedI n l) : l.length ≤ n := by
  obtain ⟨_, h2, h3⟩ := sortedI_iff.mp h
  have := up_len h2 h3
  omega
theorem sortedI_names {n : Nat} {ns : List NV} {l : List Int} (h : sortedI n l) (hn : n = ns.length) : Names ns l := by
  subst hn; exact (sortedI_iff.mp h).2.1

section
variable {w : World} {D : Nat → Prop} {b c : Nat} {nq pq : Sh} {ns : List NV} {es : List PE} {next count : Int}

theorem sorted75 (h : Raw w D b c nq pq ns es next count) {q : Sh} {l : List Int} (hu : SlI .i64 w q l) (hl : l.length ≤ 9223372036854775807) :
    callF Try.prog 75 #[.pointer (some ⟨b, 0, none⟩), .slice q.1 q.2.1 q.2.2] w = some (.bool (decide (sortedI ns.length l)), w) := by
  have hq := hu.1
  have c0 : w.cell? ⟨b, 0, none⟩ = some (.slice nq.1 nq.2.1 nq.2.2) := h.tbl.cell 0
  have hnl := h.nlen
  obtain ⟨e, t, w', g1, rfl, hQ⟩ := loopS_rule (b := g75_l2_b q (some ⟨b, 0, none⟩))
    (I := fun k s x => x = w ∧ ∃ last : Int, s = (false, (k : Int)) ∧ -1 ≤ last ∧ (k = 0 → last = -1) ∧ (0 < k → l[k - 1]? = some last) ∧ upB ns.length (-1) l = upB ns.length last (l.drop k))
    (Q := fun e s x => x = w ∧ (e = .ret ∧ s.1 = false ∧ upB ns.length (-1) l = false ∨ e = .exit 0 ∧ upB ns.length (-1) l = true)) (n := l.length)
    (fun k s x hk ⟨hx, last, hs, h0, h1, h2, h3⟩ => by
      subst hs hx
      obtain ⟨a, i1, c1⟩ := hu.get hk
      have k0 : decide ((k : Int) < (q.2.1 : Int)) = true := by simp; omega
      have hw := wrap_succ (n := k) (by omega)
      rw [List.drop_eq_getElem_cons hk, upB] at h3
      by_cases n0 : l[k] < 0
      · have k1 : decide (l[k] < 0) = true := by simp [n0]
        refine ⟨.ret, (false, (k : Int)), x, ?_, .inr ⟨by simp, rfl, .inl ⟨rfl, rfl, ?_⟩⟩⟩
        · unfold g75_l2_b
          simp only [k0, i1, c1, k1, obs, asP_pointer, asB_bool, asI_int, asS_string, asSl_slice, asM_map, asTup0, asTup1, asTup2, asTup3, asTup4, asTup5, asTup6, asTup7, asTup8, asTup9, asAgg2, asAgg3, asAgg4, asAgg5, asAgg6, asAgg7, asAgg8, asAgg9, asAgg12, getD0, getD1, getD2, getD3, getD4, getD5, getD6, getD7, getD8, getD9, getD10, getD11, getD12, getD13, getD14, getD15, getD16, getD17, getD18, getD19, Bool.not_true, Bool.not_false, Bool.false_eq_true, Bool.true_eq_false, ↓reduceIte, decide_true, decide_false, Option.isNone_some, Option.isNone_none, Option.isSome_some, Option.isSome_none, beq_self_eq_true, bne_self_eq_false, Bool.and_true, Bool.true_and, Bool.and_false, Bool.false_and, not_true_eq_false, not_false_eq_true]
        · rw [h3]
          have : decide (last < l[k] ∧ l[k] < (ns.length : Int)) = false := by simp; omega
          rw [this, Bool.false_and]
      have k1 : decide (l[k] < 0) = false := by simp; omega
      by_cases n1 : l[k] ≥ (nq.2.1 : Int)
      · have k2 : decide (l[k] ≥ (nq.2.1 : Int)) = true := by simp; omega
        refine ⟨.ret, (false, (k : Int)), x, ?_, .inr ⟨by simp, rfl, .inl ⟨rfl, rfl, ?_⟩⟩⟩
        · unfold g75_l2_b
          simp only [k0, i1, c1, k1, c0, k2, obs, asP_pointer, asB_bool, asI_int, asS_string, asSl_slice, asM_map, asTup0, asTup1, asTup2, asTup3, asTup4, asTup5, asTup6, asTup7, asTup8, asTup9, asAgg2, asAgg3, asAgg4, asAgg5, asAgg6, asAgg7, asAgg8, asAgg9, asAgg12, getD0, getD1, getD2, getD3, getD4, getD5, getD6, getD7, getD8, getD9, getD10, getD11, getD12, getD13, getD14, getD15, getD16, getD17, getD18, getD19, Bool.not_true, Bool.not_false, Bool.false_eq_true, Bool.true_eq_false, ↓reduceIte, decide_true, decide_false, Option.isNone_some, Option.isNone_none, Option.isSome_some, Option.isSome_none, beq_self_eq_true, bne_self_eq_false, Bool.and_true, Bool.true_and, Bool.and_false, Bool.false_and, not_true_eq_false, not_false_eq_true]
        · rw [h3]
          have : decide (last < l[k] ∧ l[k] < (ns.length : Int)) = false := by simp; omega
          rw [this, Bool.false_and]
      have k2 : decide (l[k] ≥ (nq.2.1 : Int)) = false := by simp; omega
      by_cases hk0 : k = 0
      · have hlast := h1 hk0
        have k3 : decide ((k : Int) > 0) = false := by simp; omega
        refine ⟨.normal, (false, ((k + 1 : Nat) : Int)), x, ?_, .inl ⟨rfl, rfl, l[k], rfl, by omega, by omega, fun _ => by simp [hk], ?_⟩⟩
        · unfold g75_l2_b
          simp only [k0, i1, c1, k1, c0, k2, k3, hw, obs, asP_pointer, asB_bool, asI_int, asS_string, asSl_slice, asM_map, asTup0, asTup1, asTup2, asTup3, asTup4, asTup5, asTup6, asTup7, asTup8, asTup9, asAgg2, asAgg3, asAgg4, asAgg5, asAgg6, asAgg7, asAgg8, asAgg9, asAgg12, getD0, getD1, getD2, getD3, getD4, getD5, getD6, getD7, getD8, getD9, getD10, getD11, getD12, getD13, getD14, getD15, getD16, getD17, getD18, getD19, Bool.not_true, Bool.not_false, Bool.false_eq_true, Bool.true_eq_false, ↓reduceIte, decide_true, decide_false, Option.isNone_some, Option.isNone_none, Option.isSome_some, Option.isSome_none, beq_self_eq_true, bne_self_eq_false, Bool.and_true, Bool.true_and, Bool.and_false, Bool.false_and, not_true_eq_false, not_false_eq_true]
        · rw [h3]
          have : decide (last < l[k] ∧ l[k] < (ns.length : Int)) = true := by simp; omega
          rw [this, Bool.true_and]
      · have k3 : decide ((k : Int) > 0) = true := by simp; omega
        have h2' := h2 (by omega)
        obtain ⟨a2, i2, c2⟩ := hu.get (i := k - 1) (by omega)
        have hl2 : l[k - 1] = last := by
          rw [List.getElem?_eq_getElem (by omega)] at h2'
          simpa using h2'
        rw [hl2] at c2
        have hw2 : IntKind.i64.wrap ((k : Int) - 1) = ((k - 1 : Nat) : Int) := by rw [wrap_i64 (by omega) (by omega)]; omega
        by_cases n2 : last ≥ l[k]
        · have k4 : decide (last ≥ l[k]) = true := by simp; omega
          refine ⟨.ret, (false, (k : Int)), x, ?_, .inr ⟨by simp, rfl, .inl ⟨rfl, rfl, ?_⟩⟩⟩
          · unfold g75_l2_b
            simp only [k0, i1, c1, k1, c0, k2, k3, hw2, i2, c2, k4, obs, asP_pointer, asB_bool, asI_int, asS_string, asSl_slice, asM_map, asTup0, asTup1, asTup2, asTup3, asTup4, asTup5, asTup6, asTup7, asTup8, asTup9, asAgg2, asAgg3, asAgg4, asAgg5, asAgg6, asAgg7, asAgg8, asAgg9, asAgg12, getD0, getD1, getD2, getD3, getD4, getD5, getD6, getD7, getD8, getD9, getD10, getD11, getD12, getD13, getD14, getD15, getD16, getD17, getD18, getD19, Bool.not_true, Bool.not_false, Bool.false_eq_true, Bool.true_eq_false, ↓reduceIte, decide_true, decide_false, Option.isNone_some, Option.isNone_none, Option.isSome_some, Option.isSome_none, beq_self_eq_true, bne_self_eq_false, Bool.and_true, Bool.true_and, Bool.and_false, Bool.false_and, not_true_eq_false, not_false_eq_true]
          · rw [h3]
            have : decide (last < l[k] ∧ l[k] < (ns.length : Int)) = false := by simp; omega
            rw [this, Bool.false_and]
        · have k4 : decide (last ≥ l[k]) = false := by simp; omega
          refine ⟨.normal, (false, ((k + 1 : Nat) : Int)), x, ?_, .inl ⟨rfl, rfl, l[k], rfl, by omega, by omega, fun _ => by simp [hk], ?_⟩⟩
          · unfold g75_l2_b
            simp only [k0, i1, c1, k1, c0, k2, k3, hw2, i2, c2, k4, hw, obs, asP_pointer, asB_bool, asI_int, asS_string, asSl_slice, asM_map, asTup0, asTup1, asTup2, asTup3, asTup4, asTup5, asTup6, asTup7, asTup8, asTup9, asAgg2, asAgg3, asAgg4, asAgg5, asAgg6, asAgg7, asAgg8, asAgg9, asAgg12, getD0, getD1, getD2, getD3, getD4, getD5, getD6, getD7, getD8, getD9, getD10, getD11, getD12, getD13, getD14, getD15, getD16, getD17, getD18, getD19, Bool.not_true, Bool.not_false, Bool.false_eq_true, Bool.true_eq_false, ↓reduceIte, decide_true, decide_false, Option.isNone_some, Option.isNone_none, Option.isSome_some, Option.isSome_none, beq_self_eq_true, bne_self_eq_false, Bool.and_true, Bool.true_and, Bool.and_false, Bool.false_and, not_true_eq_false, not_false_eq_true]
          · rw [h3]
            have : decide (last < l[k] ∧ l[k] < (ns.length : Int)) = true := by simp; omega
            rw [this, Bool.true_and])
    (fun s x ⟨hx, last, hs, _, _, _, h3⟩ => by
      subst hs hx
      rw [List.drop_length] at h3
      refine ⟨.exit 0, (false, (l.length : Int)), x, ?_, by simp, rfl, .inr ⟨rfl, h3⟩⟩
      have k0 : decide ((l.length : Int) < (q.2.1 : Int)) = false := by simp; omega
      unfold g75_l2_b
      simp only [k0, Bool.false_eq_true, if_false]) (k := 0) (s := (false, 0)) (w := w) (Nat.zero_le _) ⟨rfl, -1, rfl, by omega, fun _ => rfl, fun h => absurd h (by omega), rfl⟩
  rcases hQ with ⟨rfl, h1, h2⟩ | ⟨rfl, h2⟩
  · refine g75_call ?_
    have : decide (sortedI ns.length l) = false := decide_eq_false (fun hh => by rw [hh.2] at h2; cases h2)
    rw [this]
    unfold g75
    rw [g75_l2_ret_of g1, g75_l2_ret, h1]
  · refine g75_call ?_
    have : decide (sortedI ns.length l) = decide ((q.2.1 : Int) > 0) := by
      refine decide_eq_decide.mpr ⟨fun hh => ?_, fun hh => ⟨?_, h2⟩⟩
      · have := List.length_pos_iff.mpr hh.1; omega
      · exact List.length_pos_iff.mp (by omega)
    rw [this]
    unfold g75
    rw [g75_l2_x0_of g1, g75_l2_x0]

/-! ## a partition's cells, by its entry -/
theorem Raw.get {e : PE} {k : Nat} (h : Raw w D b c nq pq ns (es.set k e) next count) (hk : k < es.length) {g o : Nat} (ha : idxA pq.1 pq.2.1 6 (k : Int) = some ⟨g, o, none⟩) {j : Nat} (hj : j < 6) : w.cell? ⟨g, o + j, none⟩ = (e.cs)[j]? := by
  have hk1 : k < (es.set k e).length := by simpa using hk
  have := h.part_cell hk1 ha hj
  rwa [show (es.set k e)[k] = e by simp] at this
theorem Raw.okAt {e : PE} {k : Nat} (h : Raw w D b c nq pq ns (es.set k e) next count) (hk : k < es.length) : PeOk w D e := by
  have hk1 : k < (es.set k e).length := by simpa using hk
  have := h.ok _ (List.getElem_mem hk1)
  rwa [show (es.set k e)[k] = e by simp] at this
theorem Raw.put {e : PE} {k : Nat} (h : Raw w D b c nq pq ns (es.set k e) next count) (hk : k < es.length) {g o : Nat} (ha : idxA pq.1 pq.2.1 6 (k : Int) = some ⟨g, o, none⟩) {j : Nat} (hj : j < 6) {D' : Nat → Prop} (e' : PE) (v : Value) (hv : v.oneCell' = true) (he : e'.cs = e.cs.set j v) (hD : ∀ y, D y → D' y) (ok' : PeOk w D' e') (lt' : ∀ y, D' y → y < w.heap.size) :
    ∃ w', st1 w ⟨g, o + j, none⟩ v = some w' ∧ Raw w' D' b c nq pq ns (es.set k e') next count ∧ Fr (blkOf pq) w w' := by
  have hk1 : k < (es.set k e).length := by simpa using hk
  have hget : (es.set k e)[k] = e := by simp
  obtain ⟨w', s, R, f⟩ := h.part_put hk1 ha hj e' v hv (by rw [hget]; exact he) hD ok' lt'
  rw [List.set_set] at R
  exact ⟨w', s, R, f⟩
theorem Raw.elect {e : PE} {k : Nat} (h : Raw w D b c nq pq ns (es.set k e) next count) (hk : k < es.length) {g o : Nat} (ha : idxA pq.1 pq.2.1 6 (k : Int) = some ⟨g, o, none⟩) (hn : Names ns e.v.isr) :
    ∃ w', callF Try.prog 71 #[.pointer (some ⟨b, 0, none⟩), .pointer (some ⟨g, o, none⟩)] w = some (.tuple #[], w') ∧ Raw w' D b c nq pq ns (es.set k { e with v := electV ns e.v }) next count ∧ Fr (blkOf pq) w w' := by
  have hk1 : k < (es.set k e).length := by simpa using hk
  have hget : (es.set k e)[k] = e := by simp
  obtain ⟨w', s, R, f⟩ := elect71 h hk1 ha (by rw [hget]; exact hn)
  rw [List.set_set, hget] at R
  exact ⟨w', s, R, f⟩
theorem Raw.grow {e : PE} {k : Nat} {D' : Nat → Prop} (h : Raw w D b c nq pq ns (es.set k e) next count) (hD : ∀ y, D y → D' y) (lt' : ∀ y, D' y → y < w.heap.size) : Raw w D' b c nq pq ns (es.set k e) next count :=
  ⟨h.tbl, h.nd, h.pt, h.ct, fun e he => (h.ok e he).fr (Fr.refl [] _) (by simp) hD, hD _ h.rb, hD _ h.rc, fun y hy => hD _ (h.rn y hy), fun y hy => hD _ (h.rp y hy), lt'⟩

def settleV (ns : List NV) (v : PV) : PV :=
  if v.tgt = [] then v else if ∀ n ∈ v.tgt, n ∈ v.isr then (if v.ld ∈ v.tgt then { v with rep := v.tgt, isr := v.tgt, tgt := [], vr := IntKind.i64.wrap (v.vr + 1) } else electV ns { v with rep := v.tgt, isr := v.tgt, tgt := [], vr := IntKind.i64.wrap (v.vr + 1) }) else v

theorem chgP {D D' : Nat → Prop} {w w' : World} {S : List Nat} (f : Fr S w w') (hS : ∀ y ∈ S, y < w.heap.size → D y) (hD : ∀ y, D y → D' y) (hn : ∀ y, D' y → D y ∨ w.heap.size ≤ y) : Chg D w w' D' :=
  ⟨⟨S.filter (· < w.heap.size), fr_old f, fun y hy => by simp at hy; exact hS y hy.1 hy.2⟩, hD, hn⟩

theorem settle76 {e : PE} {k : Nat} (h : Raw w D b c nq pq ns (es.set k e) next count) (hk : k < es.length) {g o : Nat} (ha : idxA pq.1 pq.2.1 6 (k : Int) = some ⟨g, o, none⟩) (hn : Names ns e.v.tgt) :
    ∃ D' e' w', callF Try.prog 76 #[.pointer (some ⟨b, 0, none⟩), .pointer (some ⟨g, o, none⟩)] w = some (.tuple #[], w') ∧ e'.v = settleV ns e.v ∧ Raw w' D' b c nq pq ns (es.set k e') next count ∧ Chg D w w' D' := by
  have hok := h.okAt hk
  have c5 : w.cell? ⟨g, o + 5, none⟩ = some (.slice e.qt.1 e.qt.2.1 e.qt.2.2) := h.get hk ha (j := 5) (by decide)
  have c3 : w.cell? ⟨g, o + 3, none⟩ = some (.slice e.qi.1 e.qi.2.1 e.qi.2.2) := h.get hk ha (j := 3) (by decide)
  have htl := hok.ot.len
  have hil := hok.oi.len
  simp only [intsV', List.length_map, Nat.mul_one] at htl hil
  have hlen := hok.len
  by_cases ht : e.v.tgt = []
  · have k0 : ((e.qt.2.1 : Int) == 0) = true := by rw [ht] at htl; simp at htl ⊢; omega
    refine ⟨D, e, w, g76_call ?_, by unfold settleV; rw [if_pos ht], h, Chg.refl _ _⟩
    unfold g76
    simp only [addr_add, c5, k0, obs, asP_pointer, asB_bool, asI_int, asS_string, asSl_slice, asM_map, asTup0, asTup1, asTup2, asTup3, asTup4, asTup5, asTup6, asTup7, asTup8, asTup9, asAgg2, asAgg3, asAgg4, asAgg5, asAgg6, asAgg7, asAgg8, asAgg9, asAgg12, getD0, getD1, getD2, getD3, getD4, getD5, getD6, getD7, getD8, getD9, getD10, getD11, getD12, getD13, getD14, getD15, getD16, getD17, getD18, getD19, Bool.not_true, Bool.not_false, Bool.false_eq_true, Bool.true_eq_false, ↓reduceIte, decide_true, decide_false, Option.isNone_some, Option.isNone_none, Option.isSome_some, Option.isSome_none, beq_self_eq_true, bne_self_eq_false, Bool.and_true, Bool.true_and, Bool.and_false, Bool.false_and, not_true_eq_false, not_false_eq_true]
  have hpos : 0 < e.v.tgt.length := List.length_pos_iff.mpr ht
  have k0 : ((e.qt.2.1 : Int) == 0) = false := by simp; omega
  have beg : ∀ r, g76_l9 (some ⟨b, 0, none⟩) (some ⟨g, o, none⟩) e.qt 0 w = some r → callF Try.prog 76 #[.pointer (some ⟨b, 0, none⟩), .pointer (some ⟨g, o, none⟩)] w = some r := by
    intro r hr
    refine g76_call ?_
    unfold g76
    simp only [addr_add, c5, k0, obs, asP_pointer, asB_bool, asI_int, asS_string, asSl_slice, asM_map, asTup0, asTup1, asTup2, asTup3, asTup4, asTup5, asTup6, asTup7, asTup8, asTup9, asAgg2, asAgg3, asAgg4, asAgg5, asAgg6, asAgg7, asAgg8, asAgg9, asAgg12, getD0, getD1, getD2, getD3, getD4, getD5, getD6, getD7, getD8, getD9, getD10, getD11, getD12, getD13, getD14, getD15, getD16, getD17, getD18, getD19, Bool.not_true, Bool.not_false, Bool.false_eq_true, Bool.true_eq_false, ↓reduceIte, decide_true, decide_false, Option.isNone_some, Option.isNone_none, Option.isSome_some, Option.isSome_none, beq_self_eq_true, bne_self_eq_false, Bool.and_true, Bool.true_and, Bool.and_false, Bool.false_and, not_true_eq_false, not_false_eq_true]
    exact hr
  obtain ⟨ex, t, w1, g1, rfl, hQ⟩ := loopS_rule (b := g76_l9_b e.qt (some ⟨g, o, none⟩) (some ⟨b, 0, none⟩)) (I := fun j s x => s = (j : Int) ∧ x = w ∧ ∀ n ∈ e.v.tgt.take j, n ∈ e.v.isr)
    (Q := fun ex s x => x = w ∧ (ex = .ret ∧ ¬ (∀ n ∈ e.v.tgt, n ∈ e.v.isr) ∨ ex = .exit 0 ∧ ∀ n ∈ e.v.tgt, n ∈ e.v.isr)) (n := e.v.tgt.length)
    (fun j s x hj ⟨hs, hx, hin⟩ => by
      subst hs hx
      obtain ⟨a, i1, ci⟩ := hok.ot.slC.get (i := j) (by simpa using hj)
      have ci' : x.cell? a = some (.int .i64 e.v.tgt[j]) := by rw [ci]; simp
      have e1 := contains32 hok.oi.slC (by omega) e.v.tgt[j]
      have k1 : decide ((j : Int) < (e.qt.2.1 : Int)) = true := by simp; omega
      have hw := wrap_succ (n := j) (by omega)
      by_cases hm : e.v.tgt[j] ∈ e.v.isr
      · have k2 : decide (e.v.tgt[j] ∈ e.v.isr) = true := by simp [hm]
        refine ⟨.normal, ((j + 1 : Nat) : Int), x, ?_, .inl ⟨rfl, rfl, rfl, fun n hn' => ?_⟩⟩
        · unfold g76_l9_b
          simp only [k1, i1, ci', addr_add, c3, e1, k2, hw, obs, asP_pointer, asB_bool, asI_int, asS_string, asSl_slice, asM_map, asTup0, asTup1, asTup2, asTup3, asTup4, asTup5, asTup6, asTup7, asTup8, asTup9, asAgg2, asAgg3, asAgg4, asAgg5, asAgg6, asAgg7, asAgg8, asAgg9, asAgg12, getD0, getD1, getD2, getD3, getD4, getD5, getD6, getD7, getD8, getD9, getD10, getD11, getD12, getD13, getD14, getD15, getD16, getD17, getD18, getD19, Bool.not_true, Bool.not_false, Bool.false_eq_true, Bool.true_eq_false, ↓reduceIte, decide_true, decide_false, Option.isNone_some, Option.isNone_none, Option.isSome_some, Option.isSome_none, beq_self_eq_true, bne_self_eq_false, Bool.and_true, Bool.true_and, Bool.and_false, Bool.false_and, not_true_eq_false, not_false_eq_true]
        · rw [List.take_succ_eq_append_getElem hj] at hn'
          rcases List.mem_append.mp hn' with hn' | hn'
          · exact hin n hn'
          · simp only [List.mem_singleton] at hn'; rw [hn']; exact hm
      · have k2 : decide (e.v.tgt[j] ∈ e.v.isr) = false := by simp [hm]
        refine ⟨.ret, (j : Int), x, ?_, .inr ⟨by simp, rfl, .inl ⟨rfl, fun hh => hm (hh _ (List.getElem_mem hj))⟩⟩⟩
        unfold g76_l9_b
        simp only [k1, i1, ci', addr_add, c3, e1, k2, obs, asP_pointer, asB_bool, asI_int, asS_string, asSl_slice, asM_map, asTup0, asTup1, asTup2, asTup3, asTup4, asTup5, asTup6, asTup7, asTup8, asTup9, asAgg2, asAgg3, asAgg4, asAgg5, asAgg6, asAgg7, asAgg8, asAgg9, asAgg12, getD0, getD1, getD2, getD3, getD4, getD5, getD6, getD7, getD8, getD9, getD10, getD11, getD12, getD13, getD14, getD15, getD16, getD17, getD18, getD19, Bool.not_true, Bool.not_false, Bool.false_eq_true, Bool.true_eq_false, ↓reduceIte, decide_true, decide_false, Option.isNone_some, Option.isNone_none, Option.isSome_some, Option.isSome_none, beq_self_eq_true, bne_self_eq_false, Bool.and_true, Bool.true_and, Bool.and_false, Bool.false_and, not_true_eq_false, not_false_eq_true])
    (fun s x ⟨hs, hx, hin⟩ => by
      subst hs hx
      rw [List.take_length] at hin
      refine ⟨.exit 0, (e.v.tgt.length : Int), x, ?_, by simp, rfl, .inr ⟨rfl, hin⟩⟩
      have k1 : decide ((e.v.tgt.length : Int) < (e.qt.2.1 : Int)) = false := by simp; omega
      unfold g76_l9_b
      simp only [k1, Bool.false_eq_true, if_false]) (k := 0) (s := 0) (w := w) (Nat.zero_le _) ⟨rfl, rfl, by simp⟩
  rcases hQ with ⟨rfl, hno⟩ | ⟨rfl, hall⟩
  · refine ⟨D, e, w1, beg _ ?_, by unfold settleV; rw [if_neg ht, if_neg hno], h, Chg.refl _ _⟩
    rw [g76_l9_ret_of g1, g76_l9_ret]
  -- the move ends
  have fd := Fr.drew [] w1
  have hd := h.fr fd (by simp)
  have d5 : w1.drew.cell? ⟨g, o + 5, none⟩ = some (.slice e.qt.1 e.qt.2.1 e.qt.2.2) := hd.get hk ha (j := 5) (by decide)
  have hokd := hd.okAt hk
  obtain ⟨q1, w2, e2, o2, f2, n2⟩ := clone36 hokd.ot.slC (fun hn => (hokd.ot.empty hn).2.1) (by omega)
  have R2 := hd.fr f2 (by simp)
  have p5 : w2.cell? ⟨g, o + 5, none⟩ = some (.slice e.qt.1 e.qt.2.1 e.qt.2.2) := R2.get hk ha (j := 5) (by decide)
  have ok2 := R2.okAt hk
  have z1 : w1.drew.heap.size = w1.heap.size := rfl
  let D' : Nat → Prop := fun y => D y ∨ y ∈ blkOf q1
  have hDD : ∀ y, D y → D' y := fun y hy => .inl hy
  have lt2 : ∀ y, D' y → y < w2.heap.size := fun y hy => by
    rcases hy with hy | hy
    · exact R2.lt y hy
    · exact o2.lt y hy
  have R2' := R2.grow hDD lt2
  have ok2' := R2'.okAt hk
  have nq : ∀ y ∈ blkOf q1, y ∉ blkOf pq := fun y hy hm => by have := n2 y hy; have := h.lt y (h.rp y hm); omega
  obtain ⟨w3, s3, R3, f3⟩ := R2'.put hk ha (j := 4) (by decide) (D' := D') { e with v := { e.v with rep := e.v.tgt }, qr := e.qt } (.slice e.qt.1 e.qt.2.1 e.qt.2.2) rfl rfl (fun _ => id) ⟨ok2'.oi, ok2'.ot, ok2'.ot, ⟨ok2'.reg.1, ok2'.reg.2.2, ok2'.reg.2.2⟩, ⟨hlen.1, hlen.2.2, hlen.2.2⟩⟩ lt2
  have ok3 := R3.okAt hk
  have o3 := o2.fr f3 nq
  obtain ⟨w4, s4, R4, f4⟩ := R3.put hk ha (j := 3) (by decide) (D' := D') { e with v := { e.v with rep := e.v.tgt, isr := e.v.tgt }, qr := e.qt, qi := q1 } (.slice q1.1 q1.2.1 q1.2.2) rfl rfl (fun _ => id) ⟨o3, ok3.or_, ok3.ot, ⟨fun y hy => .inr hy, ok3.reg.2.1, ok3.reg.2.2⟩, ⟨hlen.2.2, hlen.2.2, hlen.2.2⟩⟩ R3.lt
  have ok4 := R4.okAt hk
  obtain ⟨w5, s5, R5, f5⟩ := R4.put hk ha (j := 5) (by decide) (D' := D') { e with v := { e.v with rep := e.v.tgt, isr := e.v.tgt, tgt := [] }, qr := e.qt, qi := q1, qt := nl } (.slice none 0 0) rfl rfl (fun _ => id) ⟨ok4.oi, ok4.or_, Own.nil _ _ _, ⟨ok4.reg.1, ok4.reg.2.1, by simp [blkOf, nl]⟩, ⟨hlen.2.2, hlen.2.2, Nat.zero_le _⟩⟩ R4.lt
  have ok5 := R5.okAt hk
  have r2 : w5.cell? ⟨g, o + 2, none⟩ = some (.int .i64 e.v.vr) := R5.get hk ha (j := 2) (by decide)
  obtain ⟨w6, s6, R6, f6⟩ := R5.put hk ha (j := 2) (by decide) (D' := D') { e with v := { e.v with rep := e.v.tgt, isr := e.v.tgt, tgt := [], vr := IntKind.i64.wrap (e.v.vr + 1) }, qr := e.qt, qi := q1, qt := nl } (.int .i64 (IntKind.i64.wrap (e.v.vr + 1))) rfl rfl (fun _ => id) ⟨ok5.oi, ok5.or_, ok5.ot, ok5.reg, ok5.len⟩ R5.lt
  have fd6 := Fr.drew [] w6
  have R7 := R6.fr fd6 (by simp)
  have ok7 := R7.okAt hk
  have t3 : w6.drew.cell? ⟨g, o + 3, none⟩ = some (.slice q1.1 q1.2.1 q1.2.2) := R7.get hk ha (j := 3) (by decide)
  have t0 : w6.drew.cell? ⟨g, o, none⟩ = some (.int .i64 e.v.ld) := R7.get hk ha (j := 0) (by decide)
  have e7 := contains32 ok7.oi.slC (by show e.v.tgt.length < _; omega) e.v.ld
  have f16 : Fr (blkOf pq) w1 w6 := (((((Fr.mono (Fr.app fd f2) (by have z0_ := Fr.size fd; have z1_ := Fr.size f2; intro y_ hy_ hl_; grind [blkOf])) : Fr [] w1 w2).app f3).app f4).app f5 |>.app f6).mono (by intro y hy _; simpa using hy)
  have f17 : Fr (blkOf pq) w1 w6.drew := (f16.app fd6).mono (by intro y hy _; simpa using hy)
  have hnew : ∀ y, D' y → D y ∨ w1.heap.size ≤ y := fun y hy => by
    rcases hy with hy | hy
    · exact .inl hy
    · have := n2 y hy; exact .inr (by omega)
  -- what follows the order of the two readings is one
  have tail : ∀ r, (if (!decide (e.v.ld ∈ e.v.tgt)) = true then (callF Try.prog 71 #[.pointer (some ⟨b, 0, none⟩), .pointer (some ⟨g, o, none⟩)] w6.drew).bind fun r81 => (asTup 0 r81.1).bind fun _ => some (.tuple #[], r81.2) else some (.tuple #[], w6.drew)) = some r → callF Try.prog 76 #[.pointer (some ⟨b, 0, none⟩), .pointer (some ⟨g, o, none⟩)] w1 = some r := by
    intro r hr
    refine beg _ ?_
    have hj : g76_j47 (some ⟨g, o, none⟩) (some ⟨b, 0, none⟩) t w1 (e.qt.1, e.qt.2.1, e.qt.2.2) (q1.1, q1.2.1, q1.2.2) w2 = some r := by
      unfold g76_j47
      simp only [addr_add, s3, s4, s5, r2, s6, t3, t0, e7, obs, asP_pointer, asB_bool, asI_int, asS_string, asSl_slice, asM_map, asTup0, asTup1, asTup2, asTup3, asTup4, asTup5, asTup6, asTup7, asTup8, asTup9, asAgg2, asAgg3, asAgg4, asAgg5, asAgg6, asAgg7, asAgg8, asAgg9, asAgg12, getD0, getD1, getD2, getD3, getD4, getD5, getD6, getD7, getD8, getD9, getD10, getD11, getD12, getD13, getD14, getD15, getD16, getD17, getD18, getD19, Bool.not_true, Bool.not_false, Bool.false_eq_true, Bool.true_eq_false, ↓reduceIte, decide_true, decide_false, Option.isNone_some, Option.isNone_none, Option.isSome_some, Option.isSome_none, beq_self_eq_true, bne_self_eq_false, Bool.and_true, Bool.true_and, Bool.and_false, Bool.false_and, not_true_eq_false, not_false_eq_true]
      exact hr
    rw [g76_l9_x0_of g1]
    unfold g76_l9_x0
    simp only [addr_add, d5, e2, p5, hj, ite_self, obs, asP_pointer, asB_bool, asI_int, asS_string, asSl_slice, asM_map, asTup0, asTup1, asTup2, asTup3, asTup4, asTup5, asTup6, asTup7, asTup8, asTup9, asAgg2, asAgg3, asAgg4, asAgg5, asAgg6, asAgg7, asAgg8, asAgg9, asAgg12, getD0, getD1, getD2, getD3, getD4, getD5, getD6, getD7, getD8, getD9, getD10, getD11, getD12, getD13, getD14, getD15, getD16, getD17, getD18, getD19, Bool.not_true, Bool.not_false, Bool.false_eq_true, Bool.true_eq_false, ↓reduceIte, decide_true, decide_false, Option.isNone_some, Option.isNone_none, Option.isSome_some, Option.isSome_none, beq_self_eq_true, bne_self_eq_false, Bool.and_true, Bool.true_and, Bool.and_false, Bool.false_and, not_true_eq_false, not_false_eq_true]
  have hv : settleV ns e.v = if e.v.ld ∈ e.v.tgt then { e.v with rep := e.v.tgt, isr := e.v.tgt, tgt := [], vr := IntKind.i64.wrap (e.v.vr + 1) } else electV ns { e.v with rep := e.v.tgt, isr := e.v.tgt, tgt := [], vr := IntKind.i64.wrap (e.v.vr + 1) } := by
    unfold settleV; rw [if_neg ht, if_pos hall]
  rw [hv]
  by_cases hld : e.v.ld ∈ e.v.tgt
  · have kl : decide (e.v.ld ∈ e.v.tgt) = true := by simp [hld]
    rw [if_pos hld]
    refine ⟨D', _, w6.drew, tail _ (by rw [kl]; rfl), rfl, R7, chgP f17 (fun y hy _ => h.rp y hy) hDD hnew⟩
  · have kl : decide (e.v.ld ∈ e.v.tgt) = false := by simp [hld]
    rw [if_neg hld]
    obtain ⟨w8, e8, R8, f8⟩ := R7.elect hk ha (by exact hn)
    refine ⟨D', _, w8, tail _ (by rw [kl]; simp only [e8, obs, asP_pointer, asB_bool, asI_int, asS_string, asSl_slice, asM_map, asTup0, asTup1, asTup2, asTup3, asTup4, asTup5, asTup6, asTup7, asTup8, asTup9, asAgg2, asAgg3, asAgg4, asAgg5, asAgg6, asAgg7, asAgg8, asAgg9, asAgg12, getD0, getD1, getD2, getD3, getD4, getD5, getD6, getD7, getD8, getD9, getD10, getD11, getD12, getD13, getD14, getD15, getD16, getD17, getD18, getD19, Bool.not_true, Bool.not_false, Bool.false_eq_true, Bool.true_eq_false, ↓reduceIte, decide_true, decide_false, Option.isNone_some, Option.isNone_none, Option.isSome_some, Option.isSome_none, beq_self_eq_true, bne_self_eq_false, Bool.and_true, Bool.true_and, Bool.and_false, Bool.false_and, not_true_eq_false, not_false_eq_true]), rfl, R8, chgP (f17.trans f8) (fun y hy _ => h.rp y hy) hDD hnew⟩
end
end Go.Proofs.Ytjcenfgmpbeldaa
