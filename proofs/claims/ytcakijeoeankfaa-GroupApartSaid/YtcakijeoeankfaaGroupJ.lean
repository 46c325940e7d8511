/-
  GroupJ: lemmas on what Go functions of this seat come to (for whatever arguments, as each says). No condition but those that stand in each lemma.
-/
import Derived.Test.YtcakijeoeankfaaGroupI
namespace Go.Proofs.Ytcakijeoeankfaa
open Go Go.Ev
set_option maxRecDepth 100000
set_option linter.unusedVariables false
set_option linter.unusedSimpArgs false
section
variable {w : World} {D : Nat → Prop} {b : Nat} {T : List (Int × TV)} {ps : List (Int × Value)}

/-- a batch of one record, outside of any transaction -/
theorem apply20 (h : St w D b T ps) (pid : Int) {r : GV} {v e : Option Addr × Nat × Nat} (hv : SlC w 1 v [.slice e.1 e.2.1 e.2.2]) (he : SlI .u8 w e (grB r)) (hr : r.Ok) (hb : ¬ badG r) (hvD : ∀ y ∈ blkOf v, ¬ D y) (heD : ∀ y ∈ blkOf e, ¬ D y) :
    ∃ w' D', callF Try.prog 20 #[.pointer (some ⟨b, 0, none⟩), btA pid false false false v] w = some (.tuple #[], w') ∧ St w' D' b (doT T r) ps ∧ Chg D w w' D' := by
  have hb' : ¬ 8 < r.mem.length := by unfold badG at hb; omega
  have hvl : v.2.1 = 1 := by have := hv.1; simpa using this.symm
  have fa : Fr [] w (w.alloc (.cells #[.int .i64 0, .int .i64 0, .int .u64 pid, .int .i64 0, .int .i64 0, .bool false, .bool false, .bool false, .slice v.1 v.2.1 v.2.2] 50)) := Fr.alloc _
  have ba := Blk.new w (btCs pid false false false v) 50
  change Blk (w.alloc (.cells #[.int .i64 0, .int .i64 0, .int .u64 pid, .int .i64 0, .int .i64 0, .bool false, .bool false, .bool false, .slice v.1 v.2.1 v.2.2] 50)) _ _ _ at ba
  obtain ⟨w1, hw1⟩ : ∃ w1, w.alloc (.cells #[.int .i64 0, .int .i64 0, .int .u64 pid, .int .i64 0, .int .i64 0, .bool false, .bool false, .bool false, .slice v.1 v.2.1 v.2.2] 50) = w1 := ⟨_, rfl⟩
  rw [hw1] at fa ba
  have h1 := h.fr fa (by simp)
  have c6 : w1.cell? ⟨w.heap.size, 6, none⟩ = some (.bool false) := ba.cell 6
  have c8 : w1.cell? ⟨w.heap.size, 8, none⟩ = some (.slice v.1 v.2.1 v.2.2) := ba.cell 8
  obtain ⟨a, i1, cc⟩ := (hv.fr fa (by simp)).get (i := 0) (by simp)
  simp only [List.getElem_cons_zero] at cc
  have i1' : idxA v.1 v.2.1 1 0 = some a := i1
  obtain ⟨q, w2, e2, o2, f2, n2⟩ := decode18 (he.fr3 fa (by simp)) (grB_range r) (by have := grB_len hr (by omega); omega)
  rw [decG_enc hr hb] at e2 o2
  simp only [GV.arg] at e2
  obtain ⟨w3, s3, b3, f3, l3⟩ := newG w2 r q
  have F13 : Fr [] w1 w3 := (Fr.mono (Fr.app f2 f3) (by have z0_ := Fr.size f2; have z1_ := Fr.size f3; intro y_ hy_ hl_; grind [blkOf]))
  have c5 : w3.cell? ⟨w.heap.size, 5, none⟩ = some (.bool false) := (ba.fr F13 (by simp)).cell 5
  have h3 := h1.fr F13 (by simp)
  have o3 := o2.fr f3 (by simp)
  have z1 := fa.size
  have hql := o3.len
  obtain ⟨w4, D4, e4, h4, C4⟩ := do43 h3 r o3.slI (fun hn => (o3.empty hn).2.1) (by omega) (fun _ y hy hd => by
    have h1 := n2 y hy
    have h2 := h.lt y hd
    omega)
  simp only [GV.arg] at e4
  have F3 : Fr [] w w3 := (Fr.mono (Fr.app fa F13) (by have z0_ := Fr.size fa; have z1_ := Fr.size F13; intro y_ hy_ hl_; grind [blkOf]))
  have CF : Chg D w w4 D4 := by
    obtain ⟨S, f, hS⟩ := C4.fr
    have := F3.size
    refine ⟨⟨S, by simpa using F3.app f, hS⟩, C4.up, fun y hy => ?_⟩
    rcases C4.new y hy with hh | hh
    · exact .inl hh
    · exact .inr (by omega)
  have kw : IntKind.i64.wrap (0 + 1) = 1 := by decide
  have r0 : g20_l55_b v w (some ⟨b, 0, none⟩) 0 w1 = some (.normal, 1, w4) := by
    have k0 : decide ((0 : Int) < (v.2.1 : Int)) = true := by rw [hvl]; rfl
    have k1 : ((0 : Int) != 0) = false := rfl
    unfold g20_l55_b
    simp only [k0, i1', cc, e2, s3, k1, addr_add, Nat.zero_add, c5, l3, e4, kw, obs, asP_pointer, asB_bool, asI_int, asS_string, asSl_slice, asM_map, asTup0, asTup1, asTup2, asTup3, asTup4, asTup5, asTup6, asTup7, asTup8, asTup9, asAgg2, asAgg3, asAgg4, asAgg5, asAgg6, asAgg7, asAgg8, asAgg9, asAgg12, getD0, getD1, getD2, getD3, getD4, getD5, getD6, getD7, getD8, getD9, getD10, getD11, getD12, getD13, getD14, getD15, getD16, getD17, getD18, getD19, Bool.not_true, Bool.not_false, Bool.false_eq_true, Bool.true_eq_false, ↓reduceIte, decide_true, decide_false, Option.isNone_some, Option.isNone_none, Option.isSome_some, Option.isSome_none, beq_self_eq_true, bne_self_eq_false, Bool.and_true, Bool.true_and, Bool.and_false, Bool.false_and, not_true_eq_false, not_false_eq_true]
  obtain ⟨t, w5, g1, rfl, rfl⟩ := loopS_countX 3 (b := g20_l55_b v w (some ⟨b, 0, none⟩)) (n := 1) (I := fun k s x => if k = 0 then s = 0 ∧ x = w1 else s = 1 ∧ x = w4)
    (fun k s x hk hI => by
      have : k = 0 := by omega
      subst this
      obtain ⟨rfl, rfl⟩ := hI
      exact ⟨_, _, r0, by simp⟩)
    (fun s x hI => by
      obtain ⟨rfl, rfl⟩ := hI
      unfold g20_l55_b
      have k0 : decide ((1 : Int) < (v.2.1 : Int)) = false := by rw [hvl]; rfl
      simp only [k0, Bool.false_eq_true, if_false]) (k := 0) (s := 0) (w := w1) (by omega) ⟨rfl, rfl⟩
  refine ⟨w5, D4, g20_call ?_, h4, CF⟩
  unfold g20
  rw [hw1]
  simp only [addr_add, Nat.zero_add, c6, c8, obs, asP_pointer, asB_bool, asI_int, asS_string, asSl_slice, asM_map, asTup0, asTup1, asTup2, asTup3, asTup4, asTup5, asTup6, asTup7, asTup8, asTup9, asAgg2, asAgg3, asAgg4, asAgg5, asAgg6, asAgg7, asAgg8, asAgg9, asAgg12, getD0, getD1, getD2, getD3, getD4, getD5, getD6, getD7, getD8, getD9, getD10, getD11, getD12, getD13, getD14, getD15, getD16, getD17, getD18, getD19, Bool.not_true, Bool.not_false, Bool.false_eq_true, Bool.true_eq_false, ↓reduceIte, decide_true, decide_false, Option.isNone_some, Option.isNone_none, Option.isSome_some, Option.isSome_none, beq_self_eq_true, bne_self_eq_false, Bool.and_true, Bool.true_and, Bool.and_false, Bool.false_and, not_true_eq_false, not_false_eq_true]
  rw [g20_l55_x3_of g1, g20_l55_x3]

/-- one in a transaction, of whose producer nothing waits -/
theorem apply20t (h : St w D b T []) (pid : Int) {r : GV} {v e : Option Addr × Nat × Nat} (hv : SlC w 1 v [.slice e.1 e.2.1 e.2.2]) (he : SlI .u8 w e (grB r)) (hr : r.Ok) (hb : ¬ badG r) (hvD : ∀ y ∈ blkOf v, ¬ D y) (heD : ∀ y ∈ blkOf e, ¬ D y) :
    ∃ w' q' q, callF Try.prog 20 #[.pointer (some ⟨b, 0, none⟩), btA pid true false false v] w = some (.tuple #[], w') ∧ St w' D b T [(pid, .slice q'.1 q'.2.1 q'.2.2)] ∧ Own w' 27 6 q' (r.cs q) ∧ Own w' 3 1 q (numsV r.mem) ∧ (∃ S, Fr S w w' ∧ ∀ y ∈ S, D y) ∧ (∀ y ∈ blkOf q', w.heap.size ≤ y) ∧ ∀ y ∈ blkOf q, w.heap.size ≤ y := by
  have hml : maxLen = 9223372036854775807 := by decide
  have hb' : ¬ 8 < r.mem.length := by unfold badG at hb; omega
  have hvl : v.2.1 = 1 := by have := hv.1; simpa using this.symm
  have fa : Fr [] w (w.alloc (.cells #[.int .i64 0, .int .i64 0, .int .u64 pid, .int .i64 0, .int .i64 0, .bool true, .bool false, .bool false, .slice v.1 v.2.1 v.2.2] 50)) := Fr.alloc _
  have ba := Blk.new w (btCs pid true false false v) 50
  change Blk (w.alloc (.cells #[.int .i64 0, .int .i64 0, .int .u64 pid, .int .i64 0, .int .i64 0, .bool true, .bool false, .bool false, .slice v.1 v.2.1 v.2.2] 50)) _ _ _ at ba
  obtain ⟨w1, hw1⟩ : ∃ w1, w.alloc (.cells #[.int .i64 0, .int .i64 0, .int .u64 pid, .int .i64 0, .int .i64 0, .bool true, .bool false, .bool false, .slice v.1 v.2.1 v.2.2] 50) = w1 := ⟨_, rfl⟩
  rw [hw1] at fa ba
  have h1 := h.fr fa (by simp)
  have c6 : w1.cell? ⟨w.heap.size, 6, none⟩ = some (.bool false) := ba.cell 6
  have c8 : w1.cell? ⟨w.heap.size, 8, none⟩ = some (.slice v.1 v.2.1 v.2.2) := ba.cell 8
  obtain ⟨a, i1, cc⟩ := (hv.fr fa (by simp)).get (i := 0) (by simp)
  simp only [List.getElem_cons_zero] at cc
  have i1' : idxA v.1 v.2.1 1 0 = some a := i1
  obtain ⟨q, w2, e2, o2, f2, n2⟩ := decode18 (he.fr3 fa (by simp)) (grB_range r) (by have := grB_len hr (by omega); omega)
  rw [decG_enc hr hb] at e2 o2
  simp only [GV.arg] at e2
  obtain ⟨w3, s3, b3, f3, l3⟩ := newG w2 r q
  have F13 : Fr [] w1 w3 := (Fr.mono (Fr.app f2 f3) (by have z0_ := Fr.size f2; have z1_ := Fr.size f3; intro y_ hy_ hl_; grind [blkOf]))
  have ba3 := ba.fr F13 (by simp)
  have c5 : w3.cell? ⟨w.heap.size, 5, none⟩ = some (.bool true) := ba3.cell 5
  have h3 := h1.fr F13 (by simp)
  have o3 := o2.fr f3 (by simp)
  have z1 := fa.size
  have fd := Fr.drew [] w3
  have h4 := h3.fr fd (by simp)
  have ba4 := ba3.fr fd (by simp)
  have b4 := b3.fr fd (by simp)
  have l4 := b4.ldN (n := 6) rfl
  have fl : Fr [] w3.drew (w3.drew.alloc (.cells #[.int .i64 r.k, .int .i64 r.grp, .int .i64 r.gen, .slice q.1 q.2.1 q.2.2, .int .i64 r.part, .int .i64 r.off] 27)) := Fr.alloc _
  obtain ⟨q', w6, e6, o6, f6, n6, m6⟩ := app_one t55 (w := w3.drew) (Own.nil w3.drew 27 6) (ys := r.cs q) rfl (gvcs_oc r q) (by show 0 + 1 ≤ maxLen; omega) (by simp) 55 #[false, false]
  have e6' : callB Try.prog .append #[55, 55] 55 #[false, false] #[.slice none 0 0, .slice (some ⟨w3.drew.heap.size, 0, none⟩) 1 1] (w3.drew.alloc (.cells #[.int .i64 r.k, .int .i64 r.grp, .int .i64 r.gen, .slice q.1 q.2.1 q.2.2, .int .i64 r.part, .int .i64 r.off] 27)) = some (.slice q'.1 q'.2.1 q'.2.2, w6) := e6
  have f6' : Fr [] w3.drew w6 := by simpa [blkOf] using f6
  have n6' : ∀ y ∈ blkOf q', w3.heap.size ≤ y := fun y hy => by
    rcases n6 y hy with hh | hh
    · simp [blkOf] at hh
    · exact hh
  obtain ⟨w5, hw5⟩ : ∃ w5, w3.drew.alloc (.cells #[.int .i64 r.k, .int .i64 r.grp, .int .i64 r.gen, .slice q.1 q.2.1 q.2.2, .int .i64 r.part, .int .i64 r.off] 27) = w5 := ⟨_, rfl⟩
  rw [hw5] at fl e6'
  have h5 := h4.fr fl (by simp)
  have ba5 := ba4.fr fl (by simp)
  have h6 := h4.fr f6' (by simp)
  have ba6 := ba4.fr f6' (by simp)
  obtain ⟨r1, r2, fs, hT, R4⟩ := h4
  have R5 := R4.fr fl (by simp)
  have R6 := R4.fr f6' (by simp)
  have p4 : w3.drew.cell? ⟨b, 1, none⟩ = some (.map (some r2)) := R4.blk.cell 1
  have p5 : w5.cell? ⟨b, 1, none⟩ = some (.map (some r2)) := R5.blk.cell 1
  have p6 : w6.cell? ⟨b, 1, none⟩ = some (.map (some r2)) := R6.blk.cell 1
  have d4 : w3.drew.cell? ⟨w.heap.size, 2, none⟩ = some (.int .u64 pid) := ba4.cell 2
  have d5 : w5.cell? ⟨w.heap.size, 2, none⟩ = some (.int .u64 pid) := ba5.cell 2
  have d6 : w6.cell? ⟨w.heap.size, 2, none⟩ = some (.int .u64 pid) := ba6.cell 2
  have k4 : mLook (.int .u64) w3.drew (some r2) (.int .u64 pid) = some none := R4.m2.look keyOk_u pid
  have k5 : mLook (.int .u64) w5 (some r2) (.int .u64 pid) = some none := R5.m2.look keyOk_u pid
  have k6 : mLook (.int .u64) w6 (some r2) (.int .u64 pid) = some none := R6.m2.look keyOk_u pid
  obtain ⟨w7, e7, m7, f7⟩ := R6.m2.upd keyOk_u pid (.slice q'.1 q'.2.1 q'.2.2)
  have R7 : StR w7 D b r1 r2 fs [(pid, .slice q'.1 q'.2.1 q'.2.2)] := by
    have z7 := f7.size
    refine ⟨R6.blk.fr f7 (by simpa using (R6.m2.ne_blk R6.blk).symm), R6.m1.fr f7 (by simpa using R6.ne), m7, R6.gs.fr f7 (fun y hy i hi => ?_) (fun _ => id), R6.d1, R6.d2, R6.db, R6.ne, R6.om, fun y hy => by have := R6.lt y hy; omega⟩
    simp at hy
    subst hy
    exact ⟨R6.m2.ne_blk (R6.gs.ok i hi).blk, fun e => (R6.om i hi).2 e.symm, R6.m2.notin (R6.gs.ok i hi).own⟩
  have kw : IntKind.i64.wrap (0 + 1) = 1 := by decide
  have F3 : Fr [] w w3 := (Fr.mono (Fr.app fa F13) (by have z0_ := Fr.size fa; have z1_ := Fr.size F13; intro y_ hy_ hl_; grind [blkOf]))
  have r0 : g20_l55_b v w (some ⟨b, 0, none⟩) 0 w1 = some (.normal, 1, w7) := by
    have k0 : decide ((0 : Int) < (v.2.1 : Int)) = true := by rw [hvl]; rfl
    have k1 : ((0 : Int) != 0) = false := rfl
    simp only [GV.cs] at l4
    unfold g20_l55_b
    simp only [k0, i1', cc, e2, s3, k1, addr_add, Nat.zero_add, c5, l4, obs, asP_pointer, asB_bool, asI_int, asS_string, asSl_slice, asM_map, asTup0, asTup1, asTup2, asTup3, asTup4, asTup5, asTup6, asTup7, asTup8, asTup9, asAgg2, asAgg3, asAgg4, asAgg5, asAgg6, asAgg7, asAgg8, asAgg9, asAgg12, getD0, getD1, getD2, getD3, getD4, getD5, getD6, getD7, getD8, getD9, getD10, getD11, getD12, getD13, getD14, getD15, getD16, getD17, getD18, getD19, Bool.not_true, Bool.not_false, Bool.false_eq_true, Bool.true_eq_false, ↓reduceIte, decide_true, decide_false, Option.isNone_some, Option.isNone_none, Option.isSome_some, Option.isSome_none, beq_self_eq_true, bne_self_eq_false, Bool.and_true, Bool.true_and, Bool.and_false, Bool.false_and, not_true_eq_false, not_false_eq_true]
    simp only [hw5]
    simp only [addr_add, Nat.zero_add, hw5, p4, d4, p5, d5, p6, d6, k4, k5, k6, Option.getD_none, e6', e7, kw, ite_self, g20_j357, g20_j335a, g20_j296a, g20_j260, g20_j204, g20_j205, g20_j145, g20_j148, g20_j107, g20_j296b, g20_j259b, g20_j312a, g20_j272a, g20_j221, g20_j335c, g20_j222, g20_j156, g20_j157, g20_j110, g20_j113, g20_j282a, g20_j236, g20_j237, g20_j173, g20_j174, g20_j119, g20_j122, g20_j248, g20_j193, g20_j130, g20_j131, obs, asP_pointer, asB_bool, asI_int, asS_string, asSl_slice, asM_map, asTup0, asTup1, asTup2, asTup3, asTup4, asTup5, asTup6, asTup7, asTup8, asTup9, asAgg2, asAgg3, asAgg4, asAgg5, asAgg6, asAgg7, asAgg8, asAgg9, asAgg12, getD0, getD1, getD2, getD3, getD4, getD5, getD6, getD7, getD8, getD9, getD10, getD11, getD12, getD13, getD14, getD15, getD16, getD17, getD18, getD19, Bool.not_true, Bool.not_false, Bool.false_eq_true, Bool.true_eq_false, ↓reduceIte, decide_true, decide_false, Option.isNone_some, Option.isNone_none, Option.isSome_some, Option.isSome_none, beq_self_eq_true, bne_self_eq_false, Bool.and_true, Bool.true_and, Bool.and_false, Bool.false_and, not_true_eq_false, not_false_eq_true]
  obtain ⟨t, w8, g1, rfl, rfl⟩ := loopS_countX 3 (b := g20_l55_b v w (some ⟨b, 0, none⟩)) (n := 1) (I := fun k s x => if k = 0 then s = 0 ∧ x = w1 else s = 1 ∧ x = w7)
    (fun k s x hk hI => by
      have : k = 0 := by omega
      subst this
      obtain ⟨rfl, rfl⟩ := hI
      exact ⟨_, _, r0, by simp⟩)
    (fun s x hI => by
      obtain ⟨rfl, rfl⟩ := hI
      unfold g20_l55_b
      have k0 : decide ((1 : Int) < (v.2.1 : Int)) = false := by rw [hvl]; rfl
      simp only [k0, Bool.false_eq_true, if_false]) (k := 0) (s := 0) (w := w1) (by omega) ⟨rfl, rfl⟩
  have hr2 : r2 < w.heap.size := h.lt r2 R4.d2
  have F36 : Fr [] w3 w6 := (Fr.mono (Fr.app fd f6') (by have z0_ := Fr.size fd; have z1_ := Fr.size f6'; intro y_ hy_ hl_; grind [blkOf]))
  have F6 : Fr [] w w6 := (Fr.mono (Fr.app F3 F36) (by have z0_ := Fr.size F3; have z1_ := Fr.size F36; intro y_ hy_ hl_; grind [blkOf]))
  have o37 := (o3.fr F36 (by simp)).fr f7 (by intro y hy hm; simp at hm; have := n2 y hy; omega)
  refine ⟨w8, q', q, g20_call ?_, ⟨r1, r2, fs, hT, R7⟩, o6.fr f7 (by intro y hy hm; simp at hm; have := n6' y hy; have := F3.size; omega), o37, ⟨[r2], by simpa using F6.app f7, by intro y hy; simp at hy; subst hy; exact R4.d2⟩, fun y hy => by have := n6' y hy; have := F3.size; omega, fun y hy => by have := n2 y hy; omega⟩
  unfold g20
  rw [hw1]
  simp only [addr_add, Nat.zero_add, c6, c8, obs, asP_pointer, asB_bool, asI_int, asS_string, asSl_slice, asM_map, asTup0, asTup1, asTup2, asTup3, asTup4, asTup5, asTup6, asTup7, asTup8, asTup9, asAgg2, asAgg3, asAgg4, asAgg5, asAgg6, asAgg7, asAgg8, asAgg9, asAgg12, getD0, getD1, getD2, getD3, getD4, getD5, getD6, getD7, getD8, getD9, getD10, getD11, getD12, getD13, getD14, getD15, getD16, getD17, getD18, getD19, Bool.not_true, Bool.not_false, Bool.false_eq_true, Bool.true_eq_false, ↓reduceIte, decide_true, decide_false, Option.isNone_some, Option.isNone_none, Option.isSome_some, Option.isSome_none, beq_self_eq_true, bne_self_eq_false, Bool.and_true, Bool.true_and, Bool.and_false, Bool.false_and, not_true_eq_false, not_false_eq_true]
  rw [g20_l55_x3_of g1, g20_l55_x3]
end
end Go.Proofs.Ytcakijeoeankfaa
