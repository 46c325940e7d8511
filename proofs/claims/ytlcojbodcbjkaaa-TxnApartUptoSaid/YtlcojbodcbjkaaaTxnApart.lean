/-
  TxnApart: lemmas on what Go functions of this seat come to (for whatever arguments, as each says). No condition but those that stand in each lemma.
-/
import Derived.Test.YtlcojbodcbjkaaaTxnNe
import Derived.Test.YtlcojbodcbjkaaaTxnL7
namespace Go.Proofs.Ytlcojbodcbjkaaa
open Go Go.Ev
set_option maxRecDepth 100000
set_option linter.unusedVariables false
set_option linter.unusedSimpArgs false

/-- two tables -/
structure AS (W x : World) (t1 t2 : Nat) (D1 D2 : Nat → Prop) (A1 A2 : List (Int × TV)) (S : Nat) : Prop where
  n1 : NS W x t1 D1 A1 S
  n2 : NS W x t2 D2 A2 S
  dj : ∀ y, D1 y → ¬ D2 y

theorem NS.mono {W x : World} {tb : Nat} {D : Nat → Prop} {A : List (Int × TV)} {S S' : Nat} (h : NS W x tb D A S) (hS : S ≤ S') : NS W x tb D A S' := ⟨h.tab, h.fr, h.hD, fun n => Nat.le_trans (h.len n) hS⟩
section
variable {W x : World} {t1 t2 : Nat} {D1 D2 : Nat → Prop} {A1 A2 : List (Int × TV)} {S : Nat}
theorem AS.swap (h : AS W x t1 t2 D1 D2 A1 A2 S) : AS W x t2 t1 D2 D1 A2 A1 S := ⟨h.n2, h.n1, fun y h2 h1 => h.dj y h1 h2⟩
theorem AS.step (h : AS W x t1 t2 D1 D2 A1 A2 S) {x' : World} (f : Fr [] x x') : AS W x' t1 t2 D1 D2 A1 A2 S := ⟨h.n1.step f (by simp), h.n2.step f (by simp), h.dj⟩
theorem AS.app (h : AS W x t1 t2 D1 D2 A1 A2 S) {r : RV} {q : Sh} (sl : SlC x 1 q (intsV' r.parts)) (hq : 0 < r.parts.length → ∀ y ∈ blkOf q, ¬ D1 y) (hS : S + r.parts.length ≤ 100000000) :
    ∃ x' D1', callF Try.prog 13 #[.pointer (some ⟨t1, 0, none⟩), r.arg q] x = some (.tuple #[], x') ∧ AS W x' t1 t2 D1' D2 (apA A1 r) A2 (S + r.parts.length) ∧ (∃ T, Fr T x x' ∧ ∀ y ∈ T, D1 y) ∧ ∀ y, D1' y → D1 y ∨ x.heap.size ≤ y := by
  obtain ⟨x', D', e, n', c⟩ := h.n1.apply sl hq hS
  obtain ⟨T, f, hT⟩ := c.fr
  refine ⟨x', D', e, ⟨n', (h.n2.step f (fun y hy => ⟨h.n1.hD y (hT y hy), h.dj y (hT y hy)⟩)).mono (by omega), fun y hy h2 => ?_⟩, ⟨T, f, hT⟩, c.new⟩
  rcases c.new y hy with hh | hh
  · exact h.dj y hh h2
  · have := h.n2.tab.lt y h2; omega

/-- a record's copy, of another name -/
theorem recTx {rq : Sh} {r : RV} (sl : SlC x 1 rq (intsV' r.parts)) (hl : r.parts.length ≤ 1099511627776) (t : Int) :
    ∃ v x1 x2 x3, callF Try.prog 12 #[r.arg rq] x = some (r.arg v, x1) ∧
      stL (x1.alloc (.cells #[.int .i64 0, .int .i64 0, .int .i64 0, .int .u64 0, .int .i64 0, .slice none 0 0, .bool false] 30)) ⟨x1.heap.size, 0, none⟩ [.int .i64 r.k, .int .i64 r.tx, .int .i64 r.inc, .int .u64 r.pid, .int .i64 r.ep, .slice v.1 v.2.1 v.2.2, .bool r.com] 0 = some x2 ∧
      st1 x2 ⟨x1.heap.size, 1, none⟩ (.int .i64 t) = some x3 ∧ Blk x3 x1.heap.size (({ r with tx := t } : RV).cs v) 30 ∧ Fr [] x x3 ∧ x.heap.size ≤ x1.heap.size ∧ Own x3 3 1 v (intsV' r.parts) ∧ ∀ y ∈ blkOf v, x.heap.size ≤ y := by
  obtain ⟨v, x1, e1, o1, f1, n1⟩ := own12 x r sl hl
  obtain ⟨x2, s2, b2, f2, _⟩ := newR x1 r v
  obtain ⟨x3, s3, b3, f3⟩ := blk_put b2 (i := 1) (v := .int .i64 t) (by simp [RV.cs]) rfl
  have z1 := f1.size
  have z2 := f2.size
  have o2 := o1.fr f2 (by simp)
  have nq : x1.heap.size ∉ blkOf v := b2.notin o2 (by decide)
  exact ⟨v, x1, x2, x3, e1, s2, s3, b3, ((f1.app f2).app f3).mono (by intro y hy hl; simp at hy; omega), z1, o2.fr f3 (fun y hy hm => by simp at hm; subst hm; exact nq hy), n1⟩

/-- into both -/
theorem both (h : AS W x t1 t2 D1 D2 A1 A2 S) {rq : Sh} {r : RV} (sl : SlC x 1 rq (intsV' r.parts)) (hS : S + r.parts.length + r.parts.length ≤ 100000000) (t : Int) :
    ∃ v x1 x2 x3 y1 y2 D1' D2', callF Try.prog 12 #[r.arg rq] x = some (r.arg v, x1) ∧
      stL (x1.alloc (.cells #[.int .i64 0, .int .i64 0, .int .i64 0, .int .u64 0, .int .i64 0, .slice none 0 0, .bool false] 30)) ⟨x1.heap.size, 0, none⟩ [.int .i64 r.k, .int .i64 r.tx, .int .i64 r.inc, .int .u64 r.pid, .int .i64 r.ep, .slice v.1 v.2.1 v.2.2, .bool r.com] 0 = some x2 ∧
      st1 x2 ⟨x1.heap.size, 1, none⟩ (.int .i64 t) = some x3 ∧ ldN x3 ⟨x1.heap.size, 0, none⟩ 0 7 = some (({ r with tx := t } : RV).cs v) ∧
      callF Try.prog 13 #[.pointer (some ⟨t1, 0, none⟩), ({ r with tx := t } : RV).arg v] x3 = some (.tuple #[], y1) ∧ ldN y1 ⟨x1.heap.size, 0, none⟩ 0 7 = some (({ r with tx := t } : RV).cs v) ∧
      callF Try.prog 13 #[.pointer (some ⟨t2, 0, none⟩), ({ r with tx := t } : RV).arg v] y1 = some (.tuple #[], y2) ∧ AS W y2 t1 t2 D1' D2' (apA A1 { r with tx := t }) (apA A2 { r with tx := t }) (S + r.parts.length + r.parts.length) := by
  obtain ⟨v, x1, x2, x3, e1, s2, s3, b3, f3, z, o3, n3⟩ := recTx sl (by omega) t
  have h3 := h.step f3
  have ltA := h.n1.tab.lt
  have ltB := h.n2.tab.lt
  obtain ⟨y1, D1', e4, h4, ⟨T, f4, hT⟩, nw⟩ := h3.app (r := { r with tx := t }) o3.slC (fun _ y hy hd => by have := n3 y hy; have := ltA y hd; omega) (by simp only; omega)
  have b4 := b3.fr f4 (fun hm => by have := ltA _ (hT _ hm); omega)
  have o4 := o3.fr f4 (fun y hy hm => by have := ltA _ (hT _ hm); have := n3 y hy; omega)
  obtain ⟨y2, D2', e5, h5, _, _⟩ := h4.swap.app (r := { r with tx := t }) o4.slC (fun _ y hy hd => by have := n3 y hy; have := ltB y hd; omega) (by simp only; omega)
  exact ⟨v, x1, x2, x3, y1, y2, D1', D2', e1, s2, s3, b3.ldN (n := 7) rfl, e4, b4.ldN (n := 7) rfl, e5, h5.swap⟩
/-- into the first alone -/
theorem one (h : AS W x t1 t2 D1 D2 A1 A2 S) {rq : Sh} {r : RV} (sl : SlC x 1 rq (intsV' r.parts)) (hS : S + r.parts.length ≤ 100000000) (t : Int) :
    ∃ v x1 x2 x3 y1 D1', callF Try.prog 12 #[r.arg rq] x = some (r.arg v, x1) ∧
      stL (x1.alloc (.cells #[.int .i64 0, .int .i64 0, .int .i64 0, .int .u64 0, .int .i64 0, .slice none 0 0, .bool false] 30)) ⟨x1.heap.size, 0, none⟩ [.int .i64 r.k, .int .i64 r.tx, .int .i64 r.inc, .int .u64 r.pid, .int .i64 r.ep, .slice v.1 v.2.1 v.2.2, .bool r.com] 0 = some x2 ∧
      st1 x2 ⟨x1.heap.size, 1, none⟩ (.int .i64 t) = some x3 ∧ ldN x3 ⟨x1.heap.size, 0, none⟩ 0 7 = some (({ r with tx := t } : RV).cs v) ∧
      callF Try.prog 13 #[.pointer (some ⟨t1, 0, none⟩), ({ r with tx := t } : RV).arg v] x3 = some (.tuple #[], y1) ∧ AS W y1 t1 t2 D1' D2 (apA A1 { r with tx := t }) A2 (S + r.parts.length) := by
  obtain ⟨v, x1, x2, x3, e1, s2, s3, b3, f3, z, o3, n3⟩ := recTx sl (by omega) t
  have h3 := h.step f3
  have ltA := h.n1.tab.lt
  obtain ⟨y1, D1', e4, h4, _, _⟩ := h3.app (r := { r with tx := t }) o3.slC (fun _ y hy hd => by have := n3 y hy; have := ltA y hd; omega) (by simp only; omega)
  exact ⟨v, x1, x2, x3, y1, D1', e1, s2, s3, b3.ldN (n := 7) rfl, e4, h4⟩
end

/-- what is known of the two behind k rounds -/
structure AK (A1 A2 : List (Int × TV)) (na nb k : Nat) : Prop where
  same : tvOf A1 1 = tvOf A2 1
  m1 : ∀ n, n ∈ keysA A1 ↔ (n = 1 ∧ 0 < k ∧ 0 < na) ∨ (n = 2 ∧ 0 < k ∧ 0 < nb)
  m2 : ∀ n, n ∈ keysA A2 ↔ (n = 1 ∧ 0 < k ∧ 0 < na)
  d1 : (keysA A1).Nodup
  d2 : (keysA A2).Nodup
theorem AK.len1 {A1 A2 : List (Int × TV)} {na nb k : Nat} (h : AK A1 A2 na nb k) (hk : 0 < na ∨ 0 < nb → 0 < k) : A1.length = (if 0 < na then 1 else 0) + (if 0 < nb then 1 else 0) := by
  rw [← keysA_len]
  have hp : (keysA A1).Perm ((if 0 < na then [(1 : Int)] else []) ++ (if 0 < nb then [(2 : Int)] else [])) := by
    rw [List.perm_ext_iff_of_nodup h.d1 (by by_cases a : 0 < na <;> by_cases b : 0 < nb <;> simp [a, b])]
    intro n
    rw [h.m1]
    by_cases a : 0 < na <;> by_cases b : 0 < nb <;> simp [a, b] <;> grind
  rw [hp.length_eq]
  by_cases a : 0 < na <;> by_cases b : 0 < nb <;> simp [a, b]
theorem AK.len2 {A1 A2 : List (Int × TV)} {na nb k : Nat} (h : AK A1 A2 na nb k) (hk : 0 < na ∨ 0 < nb → 0 < k) : A2.length = (if 0 < na then 1 else 0) := by
  rw [← keysA_len]
  have hp : (keysA A2).Perm (if 0 < na then [(1 : Int)] else []) := by
    rw [List.perm_ext_iff_of_nodup h.d2 (by by_cases a : 0 < na <;> simp [a])]
    intro n
    rw [h.m2]
    by_cases a : 0 < na <;> simp [a] <;> grind
  rw [hp.length_eq]
  by_cases a : 0 < na <;> simp [a]

theorem AK.step {A1 A2 : List (Int × TV)} {na nb k : Nat} (h : AK A1 A2 na nb k) {ra rb : RV} (ha : ra.tx = 1) (hb : rb.tx = 2) (hk : k < na ∨ k < nb) :
    AK (if k < nb then apA (if k < na then apA A1 ra else A1) rb else (if k < na then apA A1 ra else A1)) (if k < na then apA A2 ra else A2) na nb (k + 1) := by
  have e1 : tvOf (if k < na then apA A1 ra else A1) 1 = tvOf (if k < na then apA A2 ra else A2) 1 := by
    split
    · rw [tvOf_apA, tvOf_apA, h.same]
    · exact h.same
  have m1 : ∀ n, n ∈ keysA (if k < na then apA A1 ra else A1) ↔ (n = 1 ∧ 0 < na) ∨ (n = 2 ∧ 0 < k ∧ 0 < nb) := by
    intro n
    split
    · rw [keys_mem, h.m1, ha]
      grind
    · rw [h.m1]
      grind
  have m2 : ∀ n, n ∈ keysA (if k < na then apA A2 ra else A2) ↔ (n = 1 ∧ 0 < na) := by
    intro n
    split
    · rw [keys_mem, h.m2, ha]
      grind
    · rw [h.m2]
      grind
  have d1 : (keysA (if k < na then apA A1 ra else A1)).Nodup := by
    split
    · exact keys_nodup h.d1 _
    · exact h.d1
  have d2 : (keysA (if k < na then apA A2 ra else A2)).Nodup := by
    split
    · exact keys_nodup h.d2 _
    · exact h.d2
  generalize (if k < na then apA A1 ra else A1) = B1 at *
  generalize (if k < na then apA A2 ra else A2) = B2 at *
  refine ⟨?_, fun n => ?_, fun n => ?_, ?_, d2⟩
  · split
    · rw [tvOf_apA, if_neg (by rw [hb]; omega), e1]
    · exact e1
  · split
    · rw [keys_mem, m1, hb]
      grind
    · rw [m1]
      grind
  · rw [m2]
    grind
  · split
    · exact keys_nodup d1 _
    · exact d1

/-- a round -/
theorem apart_round {W x : World} {x0 x1 : (Ty.slice RT).Val} (h0 : (Ty.slice RT).At W [.slice x0.1.1 x0.1.2.1 x0.1.2.2] x0) (h1 : (Ty.slice RT).At W [.slice x1.1.1 x1.1.2.1 x1.1.2.2] x1) {t1 t2 : Nat} {D1 D2 : Nat → Prop} {A1 A2 : List (Int × TV)} {S k : Nat} (h : AS W x t1 t2 D1 D2 A1 A2 S) (hk : AK A1 A2 x0.2.length x1.2.length k) (hkk : k < x0.2.length ∨ k < x1.2.length)
    {Sa Sb : Nat} (hSa : ∀ hh : k < x0.2.length, 2 * (toR x0.2[k]).parts.length ≤ Sa) (hSb : ∀ hh : k < x1.2.length, (toR x1.2[k]).parts.length ≤ Sb) (hS : S + Sa + Sb ≤ 100000000) :
    ∃ x' D1' D2' A1' A2', g7_l7_b x0.1 (some ⟨t1, 0, none⟩) (some ⟨t2, 0, none⟩) x1.1 (k : Int) x = some (.normal, ((k + 1 : Nat) : Int), x') ∧ AS W x' t1 t2 D1' D2' A1' A2' (S + Sa + Sb) ∧ AK A1' A2' x0.2.length x1.2.length (k + 1) := by
  have hml : maxLen = 9223372036854775807 := by decide
  have hl1 : x0.2.length = x0.1.2.1 := h0.2.1
  have hl2 : x0.1.2.1 ≤ x0.1.2.2 := h0.2.2.1
  have hl3 : x0.1.2.2 ≤ maxLen := h0.2.2.2.1
  have hm1 : x1.2.length = x1.1.2.1 := h1.2.1
  have hm2 : x1.1.2.1 ≤ x1.1.2.2 := h1.2.2.1
  have hm3 : x1.1.2.2 ≤ maxLen := h1.2.2.2.1
  have hw := wrap_succ (n := k) (by omega)
  have hold : Old W x := (Old.refl W).fr h.n1.fr (by simp)
  by_cases ca : k < x0.2.length
  · have ka : decide ((k : Int) < (x0.1.2.1 : Int)) = true := by simp; omega
    obtain ⟨⟨a, i1, l1, _⟩, sl⟩ := rec_at (at_old hold _ _ _ h0) ca
    have bSa := hSa ca
    generalize toR x0.2[k] = r at *
    generalize rqOf x0.2[k] = rq at *
    obtain ⟨v, y1, y2, y3, y4, y5, D1', D2', e1, s2, s3, l3, e4, l4, e5, hA⟩ := both h sl (by omega) 1
    simp only [RV.arg] at e1 e4 e5
    simp only [RV.cs] at l1 l3 l4
    by_cases cb : k < x1.2.length
    · have kb : decide ((k : Int) < (x1.1.2.1 : Int)) = true := by simp; omega
      have hold2 : Old W y5 := (Old.refl W).fr hA.n1.fr (by simp)
      obtain ⟨⟨b, j1, m1, _⟩, sm⟩ := rec_at (at_old hold2 _ _ _ h1) cb
      have bSb := hSb cb
      generalize toR x1.2[k] = u at *
      generalize rqOf x1.2[k] = uq at *
      obtain ⟨v2, z1, z2, z3, z4, D1b, g1, p2, p3, q3, g4, hB⟩ := one hA sm (by omega) 2
      simp only [RV.arg] at g1 g4
      simp only [RV.cs] at m1 q3
      have st := hk.step (ra := { r with tx := 1 }) (rb := { u with tx := 2 }) rfl rfl hkk
      rw [if_pos ca, if_pos cb, if_pos ca] at st
      refine ⟨z4, D1b, D2', _, _, ?_, ⟨hB.n1.mono (by omega), hB.n2.mono (by omega), hB.dj⟩, st⟩
      unfold g7_l7_b
      simp only [ka, i1, l1, e1, s2, addr_add, Nat.zero_add, s3, l3, e4, l4, e5, kb, j1, m1, g1, p2, p3, q3, g4, hw, obs, asP_pointer, asB_bool, asI_int, asS_string, asSl_slice, asM_map, asTup0, asTup1, asTup2, asTup3, asTup4, asTup5, asTup6, asTup7, asTup8, asTup9, asAgg2, asAgg3, asAgg4, asAgg5, asAgg6, asAgg7, asAgg8, asAgg9, asAgg12, getD0, getD1, getD2, getD3, getD4, getD5, getD6, getD7, getD8, getD9, getD10, getD11, getD12, getD13, getD14, getD15, getD16, getD17, getD18, getD19, Bool.not_true, Bool.not_false, Bool.false_eq_true, Bool.true_eq_false, ↓reduceIte, decide_true, decide_false, Option.isNone_some, Option.isNone_none, Option.isSome_some, Option.isSome_none, beq_self_eq_true, bne_self_eq_false, Bool.and_true, Bool.true_and, Bool.and_false, Bool.false_and, not_true_eq_false, not_false_eq_true]
    · have kb : decide ((k : Int) < (x1.1.2.1 : Int)) = false := by simp; omega
      have st := hk.step (ra := { r with tx := 1 }) (rb := ⟨0, 2, 0, 0, 0, [], false⟩) rfl rfl hkk
      rw [if_pos ca, if_neg cb, if_pos ca] at st
      refine ⟨y5, D1', D2', _, _, ?_, ⟨hA.n1.mono (by omega), hA.n2.mono (by omega), hA.dj⟩, st⟩
      unfold g7_l7_b
      simp only [ka, i1, l1, e1, s2, addr_add, Nat.zero_add, s3, l3, e4, l4, e5, kb, hw, obs, asP_pointer, asB_bool, asI_int, asS_string, asSl_slice, asM_map, asTup0, asTup1, asTup2, asTup3, asTup4, asTup5, asTup6, asTup7, asTup8, asTup9, asAgg2, asAgg3, asAgg4, asAgg5, asAgg6, asAgg7, asAgg8, asAgg9, asAgg12, getD0, getD1, getD2, getD3, getD4, getD5, getD6, getD7, getD8, getD9, getD10, getD11, getD12, getD13, getD14, getD15, getD16, getD17, getD18, getD19, Bool.not_true, Bool.not_false, Bool.false_eq_true, Bool.true_eq_false, ↓reduceIte, decide_true, decide_false, Option.isNone_some, Option.isNone_none, Option.isSome_some, Option.isSome_none, beq_self_eq_true, bne_self_eq_false, Bool.and_true, Bool.true_and, Bool.and_false, Bool.false_and, not_true_eq_false, not_false_eq_true]
  · have ka : decide ((k : Int) < (x0.1.2.1 : Int)) = false := by simp; omega
    have cb : k < x1.2.length := by omega
    have kb : decide ((k : Int) < (x1.1.2.1 : Int)) = true := by simp; omega
    obtain ⟨⟨b, j1, m1, _⟩, sm⟩ := rec_at (at_old hold _ _ _ h1) cb
    have bSb := hSb cb
    generalize toR x1.2[k] = u at *
    generalize rqOf x1.2[k] = uq at *
    obtain ⟨v2, z1, z2, z3, z4, D1b, g1, p2, p3, q3, g4, hB⟩ := one h sm (by omega) 2
    simp only [RV.arg] at g1 g4
    simp only [RV.cs] at m1 q3
    have st := hk.step (ra := ⟨0, 1, 0, 0, 0, [], false⟩) (rb := { u with tx := 2 }) rfl rfl hkk
    rw [if_neg ca, if_pos cb, if_neg ca] at st
    refine ⟨z4, D1b, D2, _, _, ?_, ⟨hB.n1.mono (by omega), hB.n2.mono (by omega), hB.dj⟩, st⟩
    unfold g7_l7_b
    simp only [ka, kb, j1, m1, g1, addr_add, Nat.zero_add, p2, p3, q3, g4, hw, obs, asP_pointer, asB_bool, asI_int, asS_string, asSl_slice, asM_map, asTup0, asTup1, asTup2, asTup3, asTup4, asTup5, asTup6, asTup7, asTup8, asTup9, asAgg2, asAgg3, asAgg4, asAgg5, asAgg6, asAgg7, asAgg8, asAgg9, asAgg12, getD0, getD1, getD2, getD3, getD4, getD5, getD6, getD7, getD8, getD9, getD10, getD11, getD12, getD13, getD14, getD15, getD16, getD17, getD18, getD19, Bool.not_true, Bool.not_false, Bool.false_eq_true, Bool.true_eq_false, ↓reduceIte, decide_true, decide_false, Option.isNone_some, Option.isNone_none, Option.isSome_some, Option.isSome_none, beq_self_eq_true, bne_self_eq_false, Bool.and_true, Bool.true_and, Bool.and_false, Bool.false_and, not_true_eq_false, not_false_eq_true]

theorem TxnApart_main0 (W : World) (x0 : (Ty.slice RT).Val) (h0 : (Ty.slice RT).At W [.slice x0.1.1 x0.1.2.1 x0.1.2.2] x0) (x1 : (Ty.slice RT).Val) (h1 : (Ty.slice RT).At W [.slice x1.1.1 x1.1.2.1 x1.1.2.2] x1) (hb : (Ty.slice RT).bulk x0 + (Ty.slice RT).bulk x1 ≤ 1048576) :
    ∃ w', callF Try.prog 7 #[.slice x0.1.1 x0.1.2.1 x0.1.2.2, .slice x1.1.1 x1.1.2.1 x1.1.2.2] W = some (.bool true, w') ∧ Fr [] W w' := by
  have hml : maxLen = 9223372036854775807 := by decide
  have hl1 : x0.2.length = x0.1.2.1 := h0.2.1
  have hl2 : x0.1.2.1 ≤ x0.1.2.2 := h0.2.2.1
  have hl3 : x0.1.2.2 ≤ maxLen := h0.2.2.2.1
  have hm1 : x1.2.length = x1.1.2.1 := h1.2.1
  have hbb : (x0.2.map RT.bulk).sum + 1 + ((x1.2.map RT.bulk).sum + 1) ≤ 1048576 := hb
  obtain ⟨w1, D1, e1, t1, f1, n1⟩ := new10 W
  obtain ⟨w2, D2, e2, t2, f2, n2⟩ := new10 w1
  obtain ⟨w3, e3, f3⟩ := awake11 w2
  have z1 := f1.size
  have P0 : AS W w3 (W.heap.size + 1) (w1.heap.size + 1) D1 D2 [] [] 0 := ⟨⟨(t1.fr f2 (by simp)).fr f3 (by simp), (Fr.mono (Fr.app (Fr.app f1 f2) f3) (by have z0_ := Fr.size f1; have z1_ := Fr.size f2; have z2_ := Fr.size f3; intro y_ hy_ hl_; grind [blkOf])), n1, fun n => Nat.le_refl _⟩, ⟨t2.fr f3 (by simp), (Fr.mono (Fr.app (Fr.app f1 f2) f3) (by have z0_ := Fr.size f1; have z1_ := Fr.size f2; have z2_ := Fr.size f3; intro y_ hy_ hl_; grind [blkOf])), fun y hy => by have := n2 y hy; omega, fun n => Nat.le_refl _⟩, fun y ha hb => by have := t1.lt y ha; have := n2 y hb; omega⟩
  have K0 : AK [] [] x0.2.length x1.2.length 0 := ⟨rfl, fun n => by simp [keysA], fun n => by simp [keysA], by simp [keysA], by simp [keysA]⟩
  have hwt : ∀ (l : List RT.Val) k, wtR l k ≤ (l.map RT.bulk).sum := by
    intro l k
    by_cases hk : k ≤ l.length
    · exact (wtR_le l hk).1
    · have : wtR l k = wtR l l.length := by unfold wtR; rw [List.take_of_length_le (by omega), List.take_length]
      rw [this]
      exact (wtR_le l (Nat.le_refl _)).1
  obtain ⟨t, w4, g1, rfl, D1', D2', A1, A2, P4, K4⟩ := loopS_countX 0 (b := g7_l7_b x0.1 (some ⟨W.heap.size + 1, 0, none⟩) (some ⟨w1.heap.size + 1, 0, none⟩) x1.1) (I := fun k s x => s = (k : Int) ∧ ∃ D1 D2 A1 A2, AS W x (W.heap.size + 1) (w1.heap.size + 1) D1 D2 A1 A2 (2 * wtR x0.2 k + wtR x1.2 k) ∧ AK A1 A2 x0.2.length x1.2.length k) (n := max x0.2.length x1.2.length)
    (fun k s x hk ⟨hs, D1, D2, A1, A2, P, K⟩ => by
      subst hs
      have w0k := hwt x0.2 (k + 1)
      have w1k := hwt x1.2 (k + 1)
      have s0 : ∀ hh : k < x0.2.length, wtR x0.2 k + ((toR x0.2[k]).parts.length + 1) ≤ wtR x0.2 (k + 1) := fun hh => by have := wtR_succ x0.2 hh; have := bulk_rec x0.2[k]; omega
      have s1 : ∀ hh : k < x1.2.length, wtR x1.2 k + ((toR x1.2[k]).parts.length + 1) ≤ wtR x1.2 (k + 1) := fun hh => by have := wtR_succ x1.2 hh; have := bulk_rec x1.2[k]; omega
      have m0 : wtR x0.2 k ≤ wtR x0.2 (k + 1) := by
        by_cases hh : k < x0.2.length
        · have := s0 hh; omega
        · unfold wtR; rw [List.take_of_length_le (by omega), List.take_of_length_le (by omega)]; exact Nat.le_refl _
      have m1 : wtR x1.2 k ≤ wtR x1.2 (k + 1) := by
        by_cases hh : k < x1.2.length
        · have := s1 hh; omega
        · unfold wtR; rw [List.take_of_length_le (by omega), List.take_of_length_le (by omega)]; exact Nat.le_refl _
      obtain ⟨x', D1', D2', A1', A2', e, P', K'⟩ := apart_round h0 h1 P K (by omega) (Sa := 2 * (wtR x0.2 (k + 1) - wtR x0.2 k)) (Sb := wtR x1.2 (k + 1) - wtR x1.2 k) (fun hh => by have := s0 hh; omega) (fun hh => by have := s1 hh; omega) (by omega)
      exact ⟨_, x', e, rfl, D1', D2', A1', A2', ⟨P'.n1.mono (by omega), P'.n2.mono (by omega), P'.dj⟩, K'⟩)
    (fun s x ⟨hs, _⟩ => by
      subst hs
      unfold g7_l7_b
      have k1 : decide (((max x0.2.length x1.2.length : Nat) : Int) < (x0.1.2.1 : Int)) = false := by simp; omega
      have k2 : decide (((max x0.2.length x1.2.length : Nat) : Int) < (x1.1.2.1 : Int)) = false := by simp; omega
      simp only [k1, k2, Bool.false_eq_true, if_false]) (k := 0) (s := 0) (w := w3) (Nat.zero_le _) ⟨rfl, D1, D2, [], [], by simpa [wtR] using P0, K0⟩
  have wa := hwt x0.2 (max x0.2.length x1.2.length)
  have wb := hwt x1.2 (max x0.2.length x1.2.length)
  have hlen1 := K4.len1 (by omega)
  have hlen2 := K4.len2 (by omega)
  obtain ⟨q1, w5, e5, f5, o5, _⟩ := tx21 P4.n1.tab 1 (P4.n1.lenM (by omega) 1)
  have P5 := P4.step f5
  obtain ⟨q2, w6, e6, f6, o6, _⟩ := tx21 P5.n2.tab 1 (P5.n2.lenM (by omega) 1)
  have P6 := P5.step f6
  rw [← K4.same] at e6 o6
  have tl := P4.n1.len 1
  obtain ⟨w7, e7, f7⟩ := sameTx22 w6 (tvOf A1 1) (o5.fr f6 (by simp)).slC o6.slC (by omega)
  have P7 := P6.step f7
  have la : A1.length ≤ 2 := by rw [hlen1]; split <;> split <;> omega
  have lb : A2.length ≤ 1 := by rw [hlen2]; split <;> omega
  obtain ⟨q3, w8, e8, o8, f8, _⟩ := names25 P7.n1.tab (by omega)
  have P8 := P7.step f8
  obtain ⟨q4, w9, e9, o9, f9, _⟩ := names25 P8.n2.tab (by omega)
  have P9 := P8.step f9
  have l3 : q3.2.1 = A1.length := by
    have := o8.len
    simp only [intsV', List.length_map] at this
    rw [(isort_perm _).length_eq, List.length_map] at this
    omega
  have l4 : q4.2.1 = A2.length := by
    have := o9.len
    simp only [intsV', List.length_map] at this
    rw [(isort_perm _).length_eq, List.length_map] at this
    omega
  have hres : (decide (((x1.1.2.1 : Int) : Int) > 0) == decide ((q3.2.1 : Int) > (q4.2.1 : Int))) = true := by
    rw [l3, l4, hlen1, hlen2]
    by_cases a : 0 < x0.2.length <;> by_cases b : 0 < x1.2.length
    · have : 0 < x1.1.2.1 := by omega
      simp [a, b, this]
    · have : x1.1.2.1 = 0 := by omega
      simp [a, b, this]
    · have : 0 < x1.1.2.1 := by omega
      simp [a, b, this]
    · have : x1.1.2.1 = 0 := by omega
      simp [a, b, this]
  refine ⟨w9, g7_call ?_, P9.n1.fr⟩
  simp only [TV.arg] at e5 e6 e7
  unfold g7
  simp only [e1, e2, e3, obs, asP_pointer, asB_bool, asI_int, asS_string, asSl_slice, asM_map, asTup0, asTup1, asTup2, asTup3, asTup4, asTup5, asTup6, asTup7, asTup8, asTup9, asAgg2, asAgg3, asAgg4, asAgg5, asAgg6, asAgg7, asAgg8, asAgg9, asAgg12, getD0, getD1, getD2, getD3, getD4, getD5, getD6, getD7, getD8, getD9, getD10, getD11, getD12, getD13, getD14, getD15, getD16, getD17, getD18, getD19, Bool.not_true, Bool.not_false, Bool.false_eq_true, Bool.true_eq_false, ↓reduceIte, decide_true, decide_false, Option.isNone_some, Option.isNone_none, Option.isSome_some, Option.isSome_none, beq_self_eq_true, bne_self_eq_false, Bool.and_true, Bool.true_and, Bool.and_false, Bool.false_and, not_true_eq_false, not_false_eq_true]
  rw [g7_l7_x0_of g1]
  unfold g7_l7_x0
  simp only [e5, e6, e7, e8, e9, hres, obs, asP_pointer, asB_bool, asI_int, asS_string, asSl_slice, asM_map, asTup0, asTup1, asTup2, asTup3, asTup4, asTup5, asTup6, asTup7, asTup8, asTup9, asAgg2, asAgg3, asAgg4, asAgg5, asAgg6, asAgg7, asAgg8, asAgg9, asAgg12, getD0, getD1, getD2, getD3, getD4, getD5, getD6, getD7, getD8, getD9, getD10, getD11, getD12, getD13, getD14, getD15, getD16, getD17, getD18, getD19, Bool.not_true, Bool.not_false, Bool.false_eq_true, Bool.true_eq_false, ↓reduceIte, decide_true, decide_false, Option.isNone_some, Option.isNone_none, Option.isSome_some, Option.isSome_none, beq_self_eq_true, bne_self_eq_false, Bool.and_true, Bool.true_and, Bool.and_false, Bool.false_and, not_true_eq_false, not_false_eq_true]

theorem TxnApart_main (W : World) (x0 : (Ty.slice (.cons (.int .i64) (.cons (.int .i64) (.cons (.int .i64) (.cons (.int .u64) (.cons (.int .i64) (.cons (.slice (.int .i64)) (.cons .bool .nil)))))))).Val) (h0 : (Ty.slice (.cons (.int .i64) (.cons (.int .i64) (.cons (.int .i64) (.cons (.int .u64) (.cons (.int .i64) (.cons (.slice (.int .i64)) (.cons .bool .nil)))))))).At W [.slice x0.1.1 x0.1.2.1 x0.1.2.2] x0) (x1 : (Ty.slice (.cons (.int .i64) (.cons (.int .i64) (.cons (.int .i64) (.cons (.int .u64) (.cons (.int .i64) (.cons (.slice (.int .i64)) (.cons .bool .nil)))))))).Val) (h1 : (Ty.slice (.cons (.int .i64) (.cons (.int .i64) (.cons (.int .i64) (.cons (.int .u64) (.cons (.int .i64) (.cons (.slice (.int .i64)) (.cons .bool .nil)))))))).At W [.slice x1.1.1 x1.1.2.1 x1.1.2.2] x1) (hb : (Ty.slice (.cons (.int .i64) (.cons (.int .i64) (.cons (.int .i64) (.cons (.int .u64) (.cons (.int .i64) (.cons (.slice (.int .i64)) (.cons .bool .nil)))))))).bulk x0 + (Ty.slice (.cons (.int .i64) (.cons (.int .i64) (.cons (.int .i64) (.cons (.int .u64) (.cons (.int .i64) (.cons (.slice (.int .i64)) (.cons .bool .nil)))))))).bulk x1 ≤ 1048576) :
    ∃ w', callF Try.prog 7 #[.slice x0.1.1 x0.1.2.1 x0.1.2.2, .slice x1.1.1 x1.1.2.1 x1.1.2.2] W = some (.bool true, w') ∧ Fr [] W w' := TxnApart_main0 W x0 h0 x1 h1 hb
end Go.Proofs.Ytlcojbodcbjkaaa
