/-
  GroupK: lemmas on what Go functions of this seat come to (for whatever arguments, as each says). No condition but those that stand in each lemma.
-/
import Derived.Test.YtcakijeoeankfaaGroupJ
namespace Go.Proofs.Ytcakijeoeankfaa
open Go Go.Ev
set_option maxRecDepth 100000
set_option linter.unusedVariables false
set_option linter.unusedSimpArgs false
def offG (T : List (Int × TV)) (n part : Int) : Int := match kget T n with | none => 0 | some t => (kget t.offs part).getD 0
section
variable {w : World} {D : Nat → Prop} {b : Nat} {T : List (Int × TV)} {ps : List (Int × Value)} {pid : Int} {q q' : Option Addr × Nat × Nat}

theorem StR.setPs {w' : World} {r1 r2 : Nat} {fs : List GE} {ps' : List (Int × Value)} (h : StR w D b r1 r2 fs ps) (m : MapAt (Value.int .u64) w' r2 ps') (f : Fr [r2] w w') : StR w' D b r1 r2 fs ps' := by
  have z := f.size
  refine ⟨h.blk.fr f (by simpa using (h.m2.ne_blk h.blk).symm), h.m1.fr f (by simpa using h.ne), m, h.gs.fr f (fun y hy i hi => ?_) (fun _ => id), h.d1, h.d2, h.db, h.ne, h.om, fun y hy => by have := h.lt y hy; omega⟩
  simp at hy
  subst hy
  exact ⟨h.m2.ne_blk (h.gs.ok i hi).blk, fun e => (h.om i hi).2 e.symm, h.m2.notin (h.gs.ok i hi).own⟩

theorem del85 {r2 : Nat} (h : MapAt (Value.int .u64) w r2 ps) (k : Int) : ∃ w', callB Try.prog .delete #[85, 47] 0 #[false, false] #[.map (some r2), .int .u64 k] w = some (.tuple #[], w') ∧ MapAt (Value.int .u64) w' r2 (delA ps k) ∧ Fr [r2] w w' :=
  callB_delete Try.underlying85 Try.underlying47 rfl keyOk_u h k

/-- a transaction's end -/
theorem apply20c (h : St w D b T [(pid, .slice q'.1 q'.2.1 q'.2.2)]) (com : Bool) {r : GV} (ho : Own w 27 6 q' (r.cs q)) (hq : Own w 3 1 q (numsV r.mem)) (hl : r.mem.length ≤ 8) (hqD : ∀ y ∈ blkOf q, ¬ D y) (hqD' : ∀ y ∈ blkOf q', ¬ D y) :
    ∃ w' D', callF Try.prog 20 #[.pointer (some ⟨b, 0, none⟩), btA pid true true com (none, 0, 0)] w = some (.tuple #[], w') ∧ St w' D' b (if com then doT T r else T) [] ∧ Chg D w w' D' := by
  have fa : Fr [] w (w.alloc (.cells #[.int .i64 0, .int .i64 0, .int .u64 pid, .int .i64 0, .int .i64 0, .bool true, .bool true, .bool com, .slice none 0 0] 50)) := Fr.alloc _
  have ba := Blk.new w (btCs pid true true com (none, 0, 0)) 50
  change Blk (w.alloc (.cells #[.int .i64 0, .int .i64 0, .int .u64 pid, .int .i64 0, .int .i64 0, .bool true, .bool true, .bool com, .slice none 0 0] 50)) _ _ _ at ba
  obtain ⟨w1, hw1⟩ : ∃ w1, w.alloc (.cells #[.int .i64 0, .int .i64 0, .int .u64 pid, .int .i64 0, .int .i64 0, .bool true, .bool true, .bool com, .slice none 0 0] 50) = w1 := ⟨_, rfl⟩
  rw [hw1] at fa ba
  have z1 := fa.size
  have c6 : w1.cell? ⟨w.heap.size, 6, none⟩ = some (.bool true) := ba.cell 6
  have c7 : w1.cell? ⟨w.heap.size, 7, none⟩ = some (.bool com) := ba.cell 7
  have fd := Fr.drew [] w1
  have F2 : Fr [] w w1.drew := (Fr.mono (Fr.app fa fd) (by have z0_ := Fr.size fa; have z1_ := Fr.size fd; intro y_ hy_ hl_; grind [blkOf]))
  have h2 := h.fr F2 (by simp)
  have ba2 := ba.fr fd (by simp)
  have d2 : w1.drew.cell? ⟨w.heap.size, 2, none⟩ = some (.int .u64 pid) := ba2.cell 2
  have hdel : delA [(pid, Value.slice q'.1 q'.2.1 q'.2.2)] pid = [] := by simp [delA]
  cases com with
  | false =>
    obtain ⟨r1, r2, fs, hT, R2⟩ := h2
    have p2 : w1.drew.cell? ⟨b, 1, none⟩ = some (.map (some r2)) := R2.blk.cell 1
    obtain ⟨w3, e3, m3, f3⟩ := del85 R2.m2 pid
    rw [hdel] at m3
    refine ⟨w3, D, g20_call ?_, ⟨r1, r2, fs, by simpa using hT, R2.setPs m3 f3⟩, ⟨⟨[r2], by simpa using F2.app f3, by intro y hy; simp at hy; subst hy; exact R2.d2⟩, fun _ => id, fun _ => .inl⟩⟩
    unfold g20
    rw [hw1]
    simp only [addr_add, Nat.zero_add, c6, c7, p2, d2, e3, obs, asP_pointer, asB_bool, asI_int, asS_string, asSl_slice, asM_map, asTup0, asTup1, asTup2, asTup3, asTup4, asTup5, asTup6, asTup7, asTup8, asTup9, asAgg2, asAgg3, asAgg4, asAgg5, asAgg6, asAgg7, asAgg8, asAgg9, asAgg12, getD0, getD1, getD2, getD3, getD4, getD5, getD6, getD7, getD8, getD9, getD10, getD11, getD12, getD13, getD14, getD15, getD16, getD17, getD18, getD19, Bool.not_true, Bool.not_false, Bool.false_eq_true, Bool.true_eq_false, ↓reduceIte, decide_true, decide_false, Option.isNone_some, Option.isNone_none, Option.isSome_some, Option.isSome_none, beq_self_eq_true, bne_self_eq_false, Bool.and_true, Bool.true_and, Bool.and_false, Bool.false_and, not_true_eq_false, not_false_eq_true]
  | true =>
    obtain ⟨r1', r2', fs', hT', R2⟩ := h2
    have p2 : w1.drew.cell? ⟨b, 1, none⟩ = some (.map (some r2')) := R2.blk.cell 1
    have k2 : mLook (.int .u64) w1.drew (some r2') (.int .u64 pid) = some (some (.slice q'.1 q'.2.1 q'.2.2)) := by
      have := R2.m2.look keyOk_u pid
      simpa [assoc_kget, kget_cons] using this
    have hql : q'.2.1 = 1 := by have := ho.len; simp [GV.cs] at this; omega
    have ho2 := ho.fr F2 (by simp)
    obtain ⟨g, off, i1, cc⟩ := ho2.slC.idx (by decide) (i := 0) (by omega)
    have ld : ldN w1.drew ⟨g, off + 0 * 6, none⟩ 0 6 = some (r.cs q) := ldN_of_cells (cs := r.cs q) (i := 0) fun j hj => by
      have hj6 : j < 6 := hj
      have := cc j hj6 (by simpa [GV.cs] using hj6)
      rw [addr_add, Nat.zero_add, this]
      simp
    simp only [GV.cs] at ld
    obtain ⟨w3, s3, b3, f3, l3⟩ := newG w1.drew r q
    have h3 : St w3 D b T [(pid, .slice q'.1 q'.2.1 q'.2.2)] := St.fr ⟨r1', r2', fs', hT', R2⟩ f3 (by simp)
    have F3 : Fr [] w w3 := (Fr.mono (Fr.app F2 f3) (by have z0_ := Fr.size F2; have z1_ := Fr.size f3; intro y_ hy_ hl_; grind [blkOf]))
    have hq3 := hq.fr F3 (by simp)
    obtain ⟨w4, D4, e4, h4, C4⟩ := do43 h3 r hq3.slI (fun hn => (hq3.empty hn).2.1) (by omega) (fun _ => hqD)
    simp only [GV.arg] at e4
    have kw : IntKind.i64.wrap (0 + 1) = 1 := by decide
    have r0 : g20_l13_b q' (some ⟨b, 0, none⟩) w 0 w1.drew = some (.normal, 1, w4) := by
      have k0 : decide ((0 : Int) < (q'.2.1 : Int)) = true := by rw [hql]; rfl
      have i1' : idxA q'.1 q'.2.1 6 0 = some ⟨g, off + 0 * 6, none⟩ := i1
      unfold g20_l13_b
      simp only [k0, i1', ld, s3, l3, e4, kw, obs, asP_pointer, asB_bool, asI_int, asS_string, asSl_slice, asM_map, asTup0, asTup1, asTup2, asTup3, asTup4, asTup5, asTup6, asTup7, asTup8, asTup9, asAgg2, asAgg3, asAgg4, asAgg5, asAgg6, asAgg7, asAgg8, asAgg9, asAgg12, getD0, getD1, getD2, getD3, getD4, getD5, getD6, getD7, getD8, getD9, getD10, getD11, getD12, getD13, getD14, getD15, getD16, getD17, getD18, getD19, Bool.not_true, Bool.not_false, Bool.false_eq_true, Bool.true_eq_false, ↓reduceIte, decide_true, decide_false, Option.isNone_some, Option.isNone_none, Option.isSome_some, Option.isSome_none, beq_self_eq_true, bne_self_eq_false, Bool.and_true, Bool.true_and, Bool.and_false, Bool.false_and, not_true_eq_false, not_false_eq_true]
    obtain ⟨t, w5, g1, rfl, rfl⟩ := loopS_countX 1 (b := g20_l13_b q' (some ⟨b, 0, none⟩) w) (n := 1) (I := fun k s x => if k = 0 then s = 0 ∧ x = w1.drew else s = 1 ∧ x = w4)
      (fun k s x hk hI => by
        have : k = 0 := by omega
        subst this
        obtain ⟨rfl, rfl⟩ := hI
        exact ⟨_, _, r0, by simp⟩)
      (fun s x hI => by
        obtain ⟨rfl, rfl⟩ := hI
        unfold g20_l13_b
        have k0 : decide ((1 : Int) < (q'.2.1 : Int)) = false := by rw [hql]; rfl
        simp only [k0, Bool.false_eq_true, if_false]) (k := 0) (s := 0) (w := w1.drew) (by omega) ⟨rfl, rfl⟩
    have CF : Chg D w w5 D4 := by
      obtain ⟨S, f, hS⟩ := C4.fr
      have := F3.size
      refine ⟨⟨S, by simpa using F3.app f, hS⟩, C4.up, fun y hy => ?_⟩
      rcases C4.new y hy with hh | hh
      · exact .inl hh
      · exact .inr (by omega)
    have hnD : ¬ D w.heap.size := fun hd => by have := h.lt _ hd; omega
    obtain ⟨S4, f4, hS4⟩ := C4.fr
    have ba3 := (ba2.fr f3 (by simp)).fr f4 (fun hm => hnD (hS4 _ hm))
    have fd5 := Fr.drew [] w5
    have h5 := h4.fr fd5 (by simp)
    have ba5 := ba3.fr fd5 (by simp)
    have d5 : w5.drew.cell? ⟨w.heap.size, 2, none⟩ = some (.int .u64 pid) := ba5.cell 2
    obtain ⟨r1, r2, fs, hT, R5⟩ := h5
    have p5 : w5.drew.cell? ⟨b, 1, none⟩ = some (.map (some r2)) := R5.blk.cell 1
    obtain ⟨w6, e6, m6, f6⟩ := del85 R5.m2 pid
    rw [hdel] at m6
    refine ⟨w6, D4, g20_call ?_, ⟨r1, r2, fs, by simpa using hT, R5.setPs m6 f6⟩, CF.trans ⟨⟨[r2], by simpa using fd5.app f6, by intro y hy; simp at hy; subst hy; exact R5.d2⟩, fun _ => id, fun _ => .inl⟩ h.lt⟩
    unfold g20
    rw [hw1]
    simp only [addr_add, Nat.zero_add, c6, c7, p2, d2, k2, Option.getD_some, obs, asP_pointer, asB_bool, asI_int, asS_string, asSl_slice, asM_map, asTup0, asTup1, asTup2, asTup3, asTup4, asTup5, asTup6, asTup7, asTup8, asTup9, asAgg2, asAgg3, asAgg4, asAgg5, asAgg6, asAgg7, asAgg8, asAgg9, asAgg12, getD0, getD1, getD2, getD3, getD4, getD5, getD6, getD7, getD8, getD9, getD10, getD11, getD12, getD13, getD14, getD15, getD16, getD17, getD18, getD19, Bool.not_true, Bool.not_false, Bool.false_eq_true, Bool.true_eq_false, ↓reduceIte, decide_true, decide_false, Option.isNone_some, Option.isNone_none, Option.isSome_some, Option.isSome_none, beq_self_eq_true, bne_self_eq_false, Bool.and_true, Bool.true_and, Bool.and_false, Bool.false_and, not_true_eq_false, not_false_eq_true]
    rw [g20_l13_x1_of g1]
    unfold g20_l13_x1
    simp only [addr_add, Nat.zero_add, p5, d5, e6, obs, asP_pointer, asB_bool, asI_int, asS_string, asSl_slice, asM_map, asTup0, asTup1, asTup2, asTup3, asTup4, asTup5, asTup6, asTup7, asTup8, asTup9, asAgg2, asAgg3, asAgg4, asAgg5, asAgg6, asAgg7, asAgg8, asAgg9, asAgg12, getD0, getD1, getD2, getD3, getD4, getD5, getD6, getD7, getD8, getD9, getD10, getD11, getD12, getD13, getD14, getD15, getD16, getD17, getD18, getD19, Bool.not_true, Bool.not_false, Bool.false_eq_true, Bool.true_eq_false, ↓reduceIte, decide_true, decide_false, Option.isNone_some, Option.isNone_none, Option.isSome_some, Option.isSome_none, beq_self_eq_true, bne_self_eq_false, Bool.and_true, Bool.true_and, Bool.and_false, Bool.false_and, not_true_eq_false, not_false_eq_true]

/-- behind the waiting records -/
theorem off_tail (h : St w D b T ps) (n part : Int) (t : Int × Int) : g22_l6_x0 (some ⟨b, 0, none⟩) n part t w = some (.tuple #[.int .i64 (offG T n part), .int .i64 0], w) := by
  obtain ⟨r1, r2, fs, rfl, R⟩ := h
  have c0 : w.cell? ⟨b, 0, none⟩ = some (.map (some r1)) := R.blk.cell 0
  have e1 := look1 R.m1 n
  unfold g22_l6_x0 offG
  rcases keysOf_get fs n with ⟨i, hi, h1, h2, h3, h4⟩ | ⟨h1, h2, h3, h4⟩
  · rw [h2] at e1
    rw [h3]
    have ok := R.gs.ok i hi
    have p2 : w.cell? ⟨fs[i].p, 2, none⟩ = some (.map (some fs[i].om)) := ok.blk.cell 2
    have lk := look1 ok.mp part
    rw [offV_get] at lk
    have hgd : ((kget fs[i].v.offs part).map (Value.int .i64)).getD (.int .i64 0) = .int .i64 ((kget fs[i].v.offs part).getD 0) := by cases kget fs[i].v.offs part <;> rfl
    simp only [c0, e1, Option.getD_some, addr_add, Nat.zero_add, p2, lk, hgd, obs, asP_pointer, asB_bool, asI_int, asS_string, asSl_slice, asM_map, asTup0, asTup1, asTup2, asTup3, asTup4, asTup5, asTup6, asTup7, asTup8, asTup9, asAgg2, asAgg3, asAgg4, asAgg5, asAgg6, asAgg7, asAgg8, asAgg9, asAgg12, getD0, getD1, getD2, getD3, getD4, getD5, getD6, getD7, getD8, getD9, getD10, getD11, getD12, getD13, getD14, getD15, getD16, getD17, getD18, getD19, Bool.not_true, Bool.not_false, Bool.false_eq_true, Bool.true_eq_false, ↓reduceIte, decide_true, decide_false, Option.isNone_some, Option.isNone_none, Option.isSome_some, Option.isSome_none, beq_self_eq_true, bne_self_eq_false, Bool.and_true, Bool.true_and, Bool.and_false, Bool.false_and, not_true_eq_false, not_false_eq_true]
  · rw [h1] at e1
    rw [h2]
    simp only [c0, e1, Option.getD_none, obs, asP_pointer, asB_bool, asI_int, asS_string, asSl_slice, asM_map, asTup0, asTup1, asTup2, asTup3, asTup4, asTup5, asTup6, asTup7, asTup8, asTup9, asAgg2, asAgg3, asAgg4, asAgg5, asAgg6, asAgg7, asAgg8, asAgg9, asAgg12, getD0, getD1, getD2, getD3, getD4, getD5, getD6, getD7, getD8, getD9, getD10, getD11, getD12, getD13, getD14, getD15, getD16, getD17, getD18, getD19, Bool.not_true, Bool.not_false, Bool.false_eq_true, Bool.true_eq_false, ↓reduceIte, decide_true, decide_false, Option.isNone_some, Option.isNone_none, Option.isSome_some, Option.isSome_none, beq_self_eq_true, bne_self_eq_false, Bool.and_true, Bool.true_and, Bool.and_false, Bool.false_and, not_true_eq_false, not_false_eq_true]

theorem offset22 (h : St w D b T []) (n part : Int) : ∃ w', callF Try.prog 22 #[.pointer (some ⟨b, 0, none⟩), .int .i64 n, .int .i64 part] w = some (.tuple #[.int .i64 (offG T n part), .int .i64 0], w') ∧ Fr [] w w' := by
  have h' := h
  obtain ⟨r1, r2, fs, hT, R⟩ := h'
  have c1 : w.cell? ⟨b, 1, none⟩ = some (.map (some r2)) := R.blk.cell 1
  obtain ⟨w1, e1, i1, f1⟩ := iter_range (P := Try.prog) Try.underlying85 R.m2
  have hne : w.heap.size ≠ r2 := fun e => by have := R.lt _ R.d2; omega
  rcases iter_next (P := Try.prog) i1 hne 0 with ⟨_, n1⟩ | ⟨hh, _⟩
  case inr => simp at hh
  obtain ⟨t, w2, g1, rfl, rfl⟩ := loopS_countX 0 (b := g22_l6_b (some ⟨w.heap.size, 0, none⟩) (some ⟨b, 0, none⟩) n part) (n := 0) (I := fun k s x => s = (0, 0) ∧ x = w1)
    (fun k s x hk hI => by omega)
    (fun s x hI => by
      obtain ⟨rfl, rfl⟩ := hI
      unfold g22_l6_b
      simp only [n1, asNext_f, onNext_n, obs, asP_pointer, asB_bool, asI_int, asS_string, asSl_slice, asM_map, asTup0, asTup1, asTup2, asTup3, asTup4, asTup5, asTup6, asTup7, asTup8, asTup9, asAgg2, asAgg3, asAgg4, asAgg5, asAgg6, asAgg7, asAgg8, asAgg9, asAgg12, getD0, getD1, getD2, getD3, getD4, getD5, getD6, getD7, getD8, getD9, getD10, getD11, getD12, getD13, getD14, getD15, getD16, getD17, getD18, getD19, Bool.not_true, Bool.not_false, Bool.false_eq_true, Bool.true_eq_false, ↓reduceIte, decide_true, decide_false, Option.isNone_some, Option.isNone_none, Option.isSome_some, Option.isSome_none, beq_self_eq_true, bne_self_eq_false, Bool.and_true, Bool.true_and, Bool.and_false, Bool.false_and, not_true_eq_false, not_false_eq_true]) (k := 0) (s := (0, 0)) (w := w1) (by omega) ⟨rfl, rfl⟩
  refine ⟨w2, g22_call ?_, f1⟩
  unfold g22
  simp only [addr_add, Nat.zero_add, c1, e1, obs, asP_pointer, asB_bool, asI_int, asS_string, asSl_slice, asM_map, asTup0, asTup1, asTup2, asTup3, asTup4, asTup5, asTup6, asTup7, asTup8, asTup9, asAgg2, asAgg3, asAgg4, asAgg5, asAgg6, asAgg7, asAgg8, asAgg9, asAgg12, getD0, getD1, getD2, getD3, getD4, getD5, getD6, getD7, getD8, getD9, getD10, getD11, getD12, getD13, getD14, getD15, getD16, getD17, getD18, getD19, Bool.not_true, Bool.not_false, Bool.false_eq_true, Bool.true_eq_false, ↓reduceIte, decide_true, decide_false, Option.isNone_some, Option.isNone_none, Option.isSome_some, Option.isSome_none, beq_self_eq_true, bne_self_eq_false, Bool.and_true, Bool.true_and, Bool.and_false, Bool.false_and, not_true_eq_false, not_false_eq_true]
  rw [g22_l6_x0_of g1, off_tail (h.fr f1 (by simp))]

theorem offset22w (h : St w D b T [(pid, .slice q'.1 q'.2.1 q'.2.2)]) {r : GV} (ho : Own w 27 6 q' (r.cs q)) (n part : Int) : ∃ w', callF Try.prog 22 #[.pointer (some ⟨b, 0, none⟩), .int .i64 n, .int .i64 part] w =
      some (if r.k = 2 ∧ r.grp = n ∧ r.part = part then .tuple #[.int .i64 0, .int .i64 16] else .tuple #[.int .i64 (offG T n part), .int .i64 0], w') ∧ Fr [] w w' := by
  have h' := h
  obtain ⟨r1, r2, fs, hT, R⟩ := h'
  have c1 : w.cell? ⟨b, 1, none⟩ = some (.map (some r2)) := R.blk.cell 1
  obtain ⟨w1, e1, i1, f1⟩ := iter_range (P := Try.prog) Try.underlying85 R.m2
  have hne : w.heap.size ≠ r2 := fun e => by have := R.lt _ R.d2; omega
  rcases iter_next (P := Try.prog) i1 hne 0 with ⟨hh, _⟩ | ⟨_, i, hi, x1, hv, n1, i2, fx, n2⟩
  · simp at hh
  have hi0 : i = 0 := by simp at hi; omega
  subst hi0
  simp only [List.getElem_cons_zero] at n1 n2
  have Fx : Fr [] w x1 := (f1.app fx).mono (by intro y hy hl; simp at hy; omega)
  have hql : q'.2.1 = 1 := by have := ho.len; simp [GV.cs] at this; omega
  have hox := ho.fr Fx (by simp)
  obtain ⟨g, off, j1, cc⟩ := hox.slC.idx (by decide) (i := 0) (by omega)
  have ld : ldN x1 ⟨g, off + 0 * 6, none⟩ 0 6 = some (r.cs q) := ldN_of_cells (cs := r.cs q) (i := 0) fun j hj => by
    have hj6 : j < 6 := hj
    have := cc j hj6 (by simpa [GV.cs] using hj6)
    rw [addr_add, Nat.zero_add, this]
    simp
  simp only [GV.cs] at ld
  obtain ⟨x2, s2, b2, f2, l2⟩ := newG x1 r q
  have a0 : x2.cell? ⟨x1.heap.size, 0, none⟩ = some (.int .i64 r.k) := b2.cell 0
  have a1 : x2.cell? ⟨x1.heap.size, 1, none⟩ = some (.int .i64 r.grp) := b2.cell 1
  have a4 : x2.cell? ⟨x1.heap.size, 4, none⟩ = some (.int .i64 r.part) := b2.cell 4
  have k0 : decide ((0 : Int) < (q'.2.1 : Int)) = true := by rw [hql]; rfl
  have j1' : idxA q'.1 q'.2.1 6 0 = some ⟨g, off + 0 * 6, none⟩ := j1
  have kw : IntKind.i64.wrap (0 + 1) = 1 := by decide
  have F2 : Fr [] w x2 := (Fr.mono (Fr.app Fx f2) (by have z0_ := Fr.size Fx; have z1_ := Fr.size f2; intro y_ hy_ hl_; grind [blkOf]))
  by_cases hc : r.k = 2 ∧ r.grp = n ∧ r.part = part
  · rw [if_pos hc]
    have q1 : (r.k == 2) = true := by simp [hc.1]
    have q2 : (r.grp == n) = true := by simp [hc.2.1]
    have q3 : (r.part == part) = true := by simp [hc.2.2]
    have r0 : g22_l17_b q' n part (some ⟨b, 0, none⟩) (some ⟨w.heap.size, 0, none⟩) (0, 0, 0) x1 = some (.ret, (0, 16, 0), x2) := by
      unfold g22_l17_b
      simp only [k0, j1', ld, s2, addr_add, Nat.zero_add, a0, q1, a1, q2, a4, q3, obs, asP_pointer, asB_bool, asI_int, asS_string, asSl_slice, asM_map, asTup0, asTup1, asTup2, asTup3, asTup4, asTup5, asTup6, asTup7, asTup8, asTup9, asAgg2, asAgg3, asAgg4, asAgg5, asAgg6, asAgg7, asAgg8, asAgg9, asAgg12, getD0, getD1, getD2, getD3, getD4, getD5, getD6, getD7, getD8, getD9, getD10, getD11, getD12, getD13, getD14, getD15, getD16, getD17, getD18, getD19, Bool.not_true, Bool.not_false, Bool.false_eq_true, Bool.true_eq_false, ↓reduceIte, decide_true, decide_false, Option.isNone_some, Option.isNone_none, Option.isSome_some, Option.isSome_none, beq_self_eq_true, bne_self_eq_false, Bool.and_true, Bool.true_and, Bool.and_false, Bool.false_and, not_true_eq_false, not_false_eq_true]
    obtain ⟨e, t, x3, g1, rfl, rfl, rfl⟩ := loopS_rule (b := g22_l17_b q' n part (some ⟨b, 0, none⟩) (some ⟨w.heap.size, 0, none⟩)) (n := 0) (I := fun k s x => s = (0, 0, 0) ∧ x = x1) (Q := fun e s x => e = .ret ∧ s = (0, 16, 0) ∧ x = x2)
      (fun k s x hk _ => by omega)
      (fun s x hI => by
        obtain ⟨rfl, rfl⟩ := hI
        exact ⟨_, _, _, r0, by simp, rfl, rfl, rfl⟩) (k := 0) (s := (0, 0, 0)) (w := x1) (Nat.le_refl _) ⟨rfl, rfl⟩
    have R0 : g22_l6_b (some ⟨w.heap.size, 0, none⟩) (some ⟨b, 0, none⟩) n part (0, 0) w1 = some (.ret, (0, 16), x3) := by
      unfold g22_l6_b
      simp only [n1, asNext_t, onNext_s, n2, obs, asP_pointer, asB_bool, asI_int, asS_string, asSl_slice, asM_map, asTup0, asTup1, asTup2, asTup3, asTup4, asTup5, asTup6, asTup7, asTup8, asTup9, asAgg2, asAgg3, asAgg4, asAgg5, asAgg6, asAgg7, asAgg8, asAgg9, asAgg12, getD0, getD1, getD2, getD3, getD4, getD5, getD6, getD7, getD8, getD9, getD10, getD11, getD12, getD13, getD14, getD15, getD16, getD17, getD18, getD19, Bool.not_true, Bool.not_false, Bool.false_eq_true, Bool.true_eq_false, ↓reduceIte, decide_true, decide_false, Option.isNone_some, Option.isNone_none, Option.isSome_some, Option.isSome_none, beq_self_eq_true, bne_self_eq_false, Bool.and_true, Bool.true_and, Bool.and_false, Bool.false_and, not_true_eq_false, not_false_eq_true]
      rw [g22_l17_ret_of g1, g22_l17_ret]
    obtain ⟨e, t, x4, g2, rfl, rfl, rfl⟩ := loopS_rule (b := g22_l6_b (some ⟨w.heap.size, 0, none⟩) (some ⟨b, 0, none⟩) n part) (n := 0) (I := fun k s x => s = (0, 0) ∧ x = w1) (Q := fun e s x => e = .ret ∧ s = (0, 16) ∧ x = x3)
      (fun k s x hk _ => by omega)
      (fun s x hI => by
        obtain ⟨rfl, rfl⟩ := hI
        exact ⟨_, _, _, R0, by simp, rfl, rfl, rfl⟩) (k := 0) (s := (0, 0)) (w := w1) (Nat.le_refl _) ⟨rfl, rfl⟩
    refine ⟨x4, g22_call ?_, F2⟩
    unfold g22
    simp only [addr_add, Nat.zero_add, c1, e1, obs, asP_pointer, asB_bool, asI_int, asS_string, asSl_slice, asM_map, asTup0, asTup1, asTup2, asTup3, asTup4, asTup5, asTup6, asTup7, asTup8, asTup9, asAgg2, asAgg3, asAgg4, asAgg5, asAgg6, asAgg7, asAgg8, asAgg9, asAgg12, getD0, getD1, getD2, getD3, getD4, getD5, getD6, getD7, getD8, getD9, getD10, getD11, getD12, getD13, getD14, getD15, getD16, getD17, getD18, getD19, Bool.not_true, Bool.not_false, Bool.false_eq_true, Bool.true_eq_false, ↓reduceIte, decide_true, decide_false, Option.isNone_some, Option.isNone_none, Option.isSome_some, Option.isSome_none, beq_self_eq_true, bne_self_eq_false, Bool.and_true, Bool.true_and, Bool.and_false, Bool.false_and, not_true_eq_false, not_false_eq_true]
    rw [g22_l6_ret_of g2, g22_l6_ret]
  · rw [if_neg hc]
    have r0 : g22_l17_b q' n part (some ⟨b, 0, none⟩) (some ⟨w.heap.size, 0, none⟩) (0, 0, 0) x1 = some (.normal, (0, 0, 1), x2) := by
      unfold g22_l17_b
      by_cases h1 : r.k = 2
      · have q1 : (r.k == 2) = true := by simp [h1]
        by_cases h2 : r.grp = n
        · have q2 : (r.grp == n) = true := by simp [h2]
          have q3 : (r.part == part) = false := by
            have : ¬ r.part = part := fun e => hc ⟨h1, h2, e⟩
            simp [this]
          simp only [k0, j1', ld, s2, addr_add, Nat.zero_add, a0, q1, a1, q2, a4, q3, kw, obs, asP_pointer, asB_bool, asI_int, asS_string, asSl_slice, asM_map, asTup0, asTup1, asTup2, asTup3, asTup4, asTup5, asTup6, asTup7, asTup8, asTup9, asAgg2, asAgg3, asAgg4, asAgg5, asAgg6, asAgg7, asAgg8, asAgg9, asAgg12, getD0, getD1, getD2, getD3, getD4, getD5, getD6, getD7, getD8, getD9, getD10, getD11, getD12, getD13, getD14, getD15, getD16, getD17, getD18, getD19, Bool.not_true, Bool.not_false, Bool.false_eq_true, Bool.true_eq_false, ↓reduceIte, decide_true, decide_false, Option.isNone_some, Option.isNone_none, Option.isSome_some, Option.isSome_none, beq_self_eq_true, bne_self_eq_false, Bool.and_true, Bool.true_and, Bool.and_false, Bool.false_and, not_true_eq_false, not_false_eq_true]
        · have q2 : (r.grp == n) = false := by simp [h2]
          simp only [k0, j1', ld, s2, addr_add, Nat.zero_add, a0, q1, a1, q2, kw, obs, asP_pointer, asB_bool, asI_int, asS_string, asSl_slice, asM_map, asTup0, asTup1, asTup2, asTup3, asTup4, asTup5, asTup6, asTup7, asTup8, asTup9, asAgg2, asAgg3, asAgg4, asAgg5, asAgg6, asAgg7, asAgg8, asAgg9, asAgg12, getD0, getD1, getD2, getD3, getD4, getD5, getD6, getD7, getD8, getD9, getD10, getD11, getD12, getD13, getD14, getD15, getD16, getD17, getD18, getD19, Bool.not_true, Bool.not_false, Bool.false_eq_true, Bool.true_eq_false, ↓reduceIte, decide_true, decide_false, Option.isNone_some, Option.isNone_none, Option.isSome_some, Option.isSome_none, beq_self_eq_true, bne_self_eq_false, Bool.and_true, Bool.true_and, Bool.and_false, Bool.false_and, not_true_eq_false, not_false_eq_true]
      · have q1 : (r.k == 2) = false := by simp [h1]
        simp only [k0, j1', ld, s2, addr_add, Nat.zero_add, a0, q1, kw, obs, asP_pointer, asB_bool, asI_int, asS_string, asSl_slice, asM_map, asTup0, asTup1, asTup2, asTup3, asTup4, asTup5, asTup6, asTup7, asTup8, asTup9, asAgg2, asAgg3, asAgg4, asAgg5, asAgg6, asAgg7, asAgg8, asAgg9, asAgg12, getD0, getD1, getD2, getD3, getD4, getD5, getD6, getD7, getD8, getD9, getD10, getD11, getD12, getD13, getD14, getD15, getD16, getD17, getD18, getD19, Bool.not_true, Bool.not_false, Bool.false_eq_true, Bool.true_eq_false, ↓reduceIte, decide_true, decide_false, Option.isNone_some, Option.isNone_none, Option.isSome_some, Option.isSome_none, beq_self_eq_true, bne_self_eq_false, Bool.and_true, Bool.true_and, Bool.and_false, Bool.false_and, not_true_eq_false, not_false_eq_true]
    obtain ⟨t, x3, g1, rfl, rfl⟩ := loopS_countX 2 (b := g22_l17_b q' n part (some ⟨b, 0, none⟩) (some ⟨w.heap.size, 0, none⟩)) (n := 1) (I := fun k s x => if k = 0 then s = (0, 0, 0) ∧ x = x1 else s = (0, 0, 1) ∧ x = x2)
      (fun k s x hk hI => by
        have : k = 0 := by omega
        subst this
        obtain ⟨rfl, rfl⟩ := hI
        exact ⟨_, _, r0, by simp⟩)
      (fun s x hI => by
        obtain ⟨rfl, rfl⟩ := hI
        unfold g22_l17_b
        have k0 : decide ((1 : Int) < (q'.2.1 : Int)) = false := by rw [hql]; rfl
        simp only [k0, Bool.false_eq_true, if_false]) (k := 0) (s := (0, 0, 0)) (w := x1) (by omega) ⟨rfl, rfl⟩
    have R0 : g22_l6_b (some ⟨w.heap.size, 0, none⟩) (some ⟨b, 0, none⟩) n part (0, 0) w1 = some (.normal, (0, 0), x3) := by
      unfold g22_l6_b
      simp only [n1, asNext_t, onNext_s, n2, obs, asP_pointer, asB_bool, asI_int, asS_string, asSl_slice, asM_map, asTup0, asTup1, asTup2, asTup3, asTup4, asTup5, asTup6, asTup7, asTup8, asTup9, asAgg2, asAgg3, asAgg4, asAgg5, asAgg6, asAgg7, asAgg8, asAgg9, asAgg12, getD0, getD1, getD2, getD3, getD4, getD5, getD6, getD7, getD8, getD9, getD10, getD11, getD12, getD13, getD14, getD15, getD16, getD17, getD18, getD19, Bool.not_true, Bool.not_false, Bool.false_eq_true, Bool.true_eq_false, ↓reduceIte, decide_true, decide_false, Option.isNone_some, Option.isNone_none, Option.isSome_some, Option.isSome_none, beq_self_eq_true, bne_self_eq_false, Bool.and_true, Bool.true_and, Bool.and_false, Bool.false_and, not_true_eq_false, not_false_eq_true]
      rw [g22_l17_x2_of g1, g22_l17_x2]
    have hlt := i2.lt
    have i3 := i2.fr f2 (by simp) (by simp)
    rcases iter_next (P := Try.prog) i3 hne 0 with ⟨_, n3⟩ | ⟨hh, _⟩
    case inr => simp at hh
    obtain ⟨t, x4, g2, rfl, rfl⟩ := loopS_countX 0 (b := g22_l6_b (some ⟨w.heap.size, 0, none⟩) (some ⟨b, 0, none⟩) n part) (n := 1) (I := fun k s x => if k = 0 then s = (0, 0) ∧ x = w1 else s = (0, 0) ∧ x = x3)
      (fun k s x hk hI => by
        have : k = 0 := by omega
        subst this
        obtain ⟨rfl, rfl⟩ := hI
        exact ⟨_, _, R0, by simp⟩)
      (fun s x hI => by
        obtain ⟨rfl, rfl⟩ := hI
        unfold g22_l6_b
        simp only [n3, asNext_f, onNext_n, obs, asP_pointer, asB_bool, asI_int, asS_string, asSl_slice, asM_map, asTup0, asTup1, asTup2, asTup3, asTup4, asTup5, asTup6, asTup7, asTup8, asTup9, asAgg2, asAgg3, asAgg4, asAgg5, asAgg6, asAgg7, asAgg8, asAgg9, asAgg12, getD0, getD1, getD2, getD3, getD4, getD5, getD6, getD7, getD8, getD9, getD10, getD11, getD12, getD13, getD14, getD15, getD16, getD17, getD18, getD19, Bool.not_true, Bool.not_false, Bool.false_eq_true, Bool.true_eq_false, ↓reduceIte, decide_true, decide_false, Option.isNone_some, Option.isNone_none, Option.isSome_some, Option.isSome_none, beq_self_eq_true, bne_self_eq_false, Bool.and_true, Bool.true_and, Bool.and_false, Bool.false_and, not_true_eq_false, not_false_eq_true]) (k := 0) (s := (0, 0)) (w := w1) (by omega) ⟨rfl, rfl⟩
    refine ⟨x4, g22_call ?_, F2⟩
    unfold g22
    simp only [addr_add, Nat.zero_add, c1, e1, obs, asP_pointer, asB_bool, asI_int, asS_string, asSl_slice, asM_map, asTup0, asTup1, asTup2, asTup3, asTup4, asTup5, asTup6, asTup7, asTup8, asTup9, asAgg2, asAgg3, asAgg4, asAgg5, asAgg6, asAgg7, asAgg8, asAgg9, asAgg12, getD0, getD1, getD2, getD3, getD4, getD5, getD6, getD7, getD8, getD9, getD10, getD11, getD12, getD13, getD14, getD15, getD16, getD17, getD18, getD19, Bool.not_true, Bool.not_false, Bool.false_eq_true, Bool.true_eq_false, ↓reduceIte, decide_true, decide_false, Option.isNone_some, Option.isNone_none, Option.isSome_some, Option.isSome_none, beq_self_eq_true, bne_self_eq_false, Bool.and_true, Bool.true_and, Bool.and_false, Bool.false_and, not_true_eq_false, not_false_eq_true]
    rw [g22_l6_x0_of g2, off_tail (h.fr F2 (by simp))]

def teamG (T : List (Int × TV)) (n : Int) : TV := (kget T n).getD tv0

theorem team23 (h : St w D b T ps) (n : Int) : ∃ q w', callF Try.prog 23 #[.pointer (some ⟨b, 0, none⟩), .int .i64 n] w = some (.tuple #[.int .i64 (teamG T n).gen, .slice q.1 q.2.1 q.2.2], w') ∧ Own w' 3 1 q (intsV' (teamG T n).mem) ∧ Fr [] w w' ∧ (∀ y ∈ blkOf q, w.heap.size ≤ y) ∧ (teamG T n).mem.length ≤ 1000000 := by
  obtain ⟨r1, r2, fs, rfl, R⟩ := h
  have c0 : w.cell? ⟨b, 0, none⟩ = some (.map (some r1)) := R.blk.cell 0
  have e1 := look1 R.m1 n
  unfold teamG
  rcases keysOf_get fs n with ⟨i, hi, h1, h2, h3, h4⟩ | ⟨h1, h2, h3, h4⟩
  · rw [h2] at e1
    rw [h3, Option.getD_some]
    have fd := Fr.drew [] w
    have R1 := R.fr fd (by simp)
    have ok := R1.gs.ok i hi
    have d0 : w.drew.cell? ⟨b, 0, none⟩ = some (.map (some r1)) := R1.blk.cell 0
    have d1 := look1 R1.m1 n
    rw [h2] at d1
    have p0 : w.drew.cell? ⟨fs[i].p, 0, none⟩ = some (.int .i64 fs[i].v.gen) := ok.blk.cell 0
    have p1 : w.drew.cell? ⟨fs[i].p, 1, none⟩ = some (.slice fs[i].q.1 fs[i].q.2.1 fs[i].q.2.2) := ok.blk.cell 1
    obtain ⟨q, w2, e2, o2, f2, n2⟩ := clone36 ok.own.slC (fun hn => (ok.own.empty hn).2.1) (by have := ok.len; omega)
    have R2 := R1.fr f2 (by simp)
    have g0 : w2.cell? ⟨b, 0, none⟩ = some (.map (some r1)) := R2.blk.cell 0
    have g1 := look1 R2.m1 n
    rw [h2] at g1
    have gp : w2.cell? ⟨fs[i].p, 0, none⟩ = some (.int .i64 fs[i].v.gen) := (R2.gs.ok i hi).blk.cell 0
    refine ⟨q, w2, g23_call ?_, o2, (Fr.mono (Fr.app fd f2) (by have z0_ := Fr.size fd; have z1_ := Fr.size f2; intro y_ hy_ hl_; grind [blkOf])), n2, ok.len⟩
    unfold g23
    simp only [c0, e1, Option.getD_some, d0, d1, addr_add, Nat.zero_add, p0, p1, e2, g23_j61, g23_j58, g23_j39, g0, g1, gp, ite_self, obs, asP_pointer, asB_bool, asI_int, asS_string, asSl_slice, asM_map, asTup0, asTup1, asTup2, asTup3, asTup4, asTup5, asTup6, asTup7, asTup8, asTup9, asAgg2, asAgg3, asAgg4, asAgg5, asAgg6, asAgg7, asAgg8, asAgg9, asAgg12, getD0, getD1, getD2, getD3, getD4, getD5, getD6, getD7, getD8, getD9, getD10, getD11, getD12, getD13, getD14, getD15, getD16, getD17, getD18, getD19, Bool.not_true, Bool.not_false, Bool.false_eq_true, Bool.true_eq_false, ↓reduceIte, decide_true, decide_false, Option.isNone_some, Option.isNone_none, Option.isSome_some, Option.isSome_none, beq_self_eq_true, bne_self_eq_false, Bool.and_true, Bool.true_and, Bool.and_false, Bool.false_and, not_true_eq_false, not_false_eq_true]
  · rw [h1] at e1
    rw [h2, Option.getD_none]
    refine ⟨(none, 0, 0), w, g23_call ?_, Own.nil _ _ _, Fr.refl _ _, by simp [blkOf], by simp [tv0]⟩
    unfold g23
    simp only [c0, e1, Option.getD_none, obs, asP_pointer, asB_bool, asI_int, asS_string, asSl_slice, asM_map, asTup0, asTup1, asTup2, asTup3, asTup4, asTup5, asTup6, asTup7, asTup8, asTup9, asAgg2, asAgg3, asAgg4, asAgg5, asAgg6, asAgg7, asAgg8, asAgg9, asAgg12, getD0, getD1, getD2, getD3, getD4, getD5, getD6, getD7, getD8, getD9, getD10, getD11, getD12, getD13, getD14, getD15, getD16, getD17, getD18, getD19, Bool.not_true, Bool.not_false, Bool.false_eq_true, Bool.true_eq_false, ↓reduceIte, decide_true, decide_false, Option.isNone_some, Option.isNone_none, Option.isSome_some, Option.isSome_none, beq_self_eq_true, bne_self_eq_false, Bool.and_true, Bool.true_and, Bool.and_false, Bool.false_and, not_true_eq_false, not_false_eq_true]
    rfl
end
end Go.Proofs.Ytcakijeoeankfaa
