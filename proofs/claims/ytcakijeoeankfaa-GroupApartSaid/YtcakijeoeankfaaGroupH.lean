/-
  GroupH: lemmas on what Go functions of this seat come to (for whatever arguments, as each says). No condition but those that stand in each lemma.
-/
import Derived.Test.YtcakijeoeankfaaGroupG
namespace Go.Proofs.Ytcakijeoeankfaa
open Go Go.Ev
set_option maxRecDepth 100000
set_option linter.unusedVariables false
set_option linter.unusedSimpArgs false

def maxI (x y : Int) : Int := if x > y then x else y
/-- what a record does to its group -/
def stepG (r : GV) (t : TV) : TV :=
  if r.k = 1 then (if t.gen < r.gen then ⟨r.gen, r.mem, t.offs⟩ else t) else { t with offs := kups t.offs r.part (fun o => maxI r.off (o.getD 0)) }
def doT (T : List (Int × TV)) (r : GV) : List (Int × TV) := kups T r.grp (fun o => stepG r (o.getD tv0))

theorem offV_get (l : List (Int × Int)) (n : Int) : kget (offV l) n = (kget l n).map (Value.int .i64) := by
  induction l with
  | nil => rfl
  | cons e l ih =>
    simp only [offV, List.map_cons, kget_cons]
    split
    · rfl
    · exact ih
theorem offV_ups (l : List (Int × Int)) (n : Int) (g : Option Int → Int) : insA (offV l) n (.int .i64 (g (kget l n))) = offV (kups l n g) := by
  induction l with
  | nil => rfl
  | cons e l ih =>
    by_cases h : n = e.1
    · simp [offV, insA, kups, kget_cons, h]
    · simp only [offV, List.map_cons, insA, kups, if_neg h, kget_cons]
      congr 1

section
variable {w : World} {D : Nat → Prop} {b : Nat} {T : List (Int × TV)} {ps : List (Int × Value)}

/-- one group is changed in place -/
theorem StR.put {w' : World} {r1 r2 : Nat} {fs : List GE} {S : List Nat} {D' : Nat → Prop} (h : StR w D b r1 r2 fs ps) {i : Nat} (hi : i < fs.length) {f : GE} (hn : f.n = fs[i].n) (hp : f.p = fs[i].p) (ho : f.om = fs[i].om) (hf : Fr S w w')
    (hS : ∀ y ∈ S, y < w.heap.size → y = fs[i].p ∨ y = fs[i].om) (hD : ∀ y, D y → D' y) (ok : GeOk w' D' f) (hlt : ∀ y, D' y → y < w'.heap.size) : StR w' D' b r1 r2 (fs.set i f) ps := by
  have hok := h.gs.ok i hi
  have hf' := fr_old hf
  have hS' : ∀ y ∈ S.filter (· < w.heap.size), y = fs[i].p ∨ y = fs[i].om := by intro y hy; simp at hy; exact hS y hy.1 hy.2
  have hk : keysOf (fs.set i f) = keysOf fs := by
    have e : ((fun f : GE => ((f.n, .pointer (some ⟨f.p, 0, none⟩)) : Int × Value)) f) = (fun f : GE => ((f.n, .pointer (some ⟨f.p, 0, none⟩)) : Int × Value)) fs[i] := by simp only [hn, hp]
    simp only [keysOf, List.map_set, e]
    apply List.ext_getElem
    · simp
    · intro j h1 h2
      rw [List.getElem_set]
      split
      · rename_i e; subst e; simp
      · rfl
  have hm1 : MapAt (Value.int .i64) w' r1 (keysOf (fs.set i f)) := by
    rw [hk]
    refine h.m1.fr hf' (fun hm => ?_)
    rcases hS' _ hm with e | e
    · exact h.m1.ne_blk hok.blk e
    · exact (h.om i hi).1 e.symm
  refine ⟨h.blk.fr hf' (fun hm => ?_), hm1, h.m2.fr hf' (fun hm => ?_), h.gs.set hi hn hp ho hf hS hD ok, hD _ h.d1, hD _ h.d2, hD _ h.db, h.ne, ?_, hlt⟩
  · rcases hS' _ hm with e | e
    · exact h.blk.ne hok.blk (by decide) e
    · exact hok.mp.ne_blk h.blk e.symm
  · rcases hS' _ hm with e | e
    · exact h.m2.ne_blk hok.blk e
    · exact (h.om i hi).2 e.symm
  · intro j hj
    rw [List.length_set] at hj
    rw [List.getElem_set]
    split
    · rw [ho]; exact h.om i hi
    · exact h.om j hj

theorem do43 (h : St w D b T ps) (r : GV) {q : Option Addr × Nat × Nat} (hu : SlI .i64 w q r.mem) (hq : q.1 = none → q.2.1 = 0) (hl : r.mem.length ≤ 1000000) (hqD : 0 < q.2.1 → ∀ y ∈ blkOf q, ¬ D y) :
    ∃ w' D', callF Try.prog 43 #[.pointer (some ⟨b, 0, none⟩), r.arg q] w = some (.tuple #[], w') ∧ St w' D' b (doT T r) ps ∧ Chg D w w' D' := by
  obtain ⟨r1, r2, fs, rfl, hR⟩ := h
  have fa : Fr [] w (w.alloc (.cells #[.int .i64 r.k, .int .i64 r.grp, .int .i64 r.gen, .slice q.1 q.2.1 q.2.2, .int .i64 r.part, .int .i64 r.off] 27)) := Fr.alloc _
  have ba := Blk.new w (r.cs q) 27
  change Blk (w.alloc (.cells #[.int .i64 r.k, .int .i64 r.grp, .int .i64 r.gen, .slice q.1 q.2.1 q.2.2, .int .i64 r.part, .int .i64 r.off] 27)) _ _ _ at ba
  obtain ⟨w1, hw1⟩ : ∃ w1, w.alloc (.cells #[.int .i64 r.k, .int .i64 r.grp, .int .i64 r.gen, .slice q.1 q.2.1 q.2.2, .int .i64 r.part, .int .i64 r.off] 27) = w1 := ⟨_, rfl⟩
  rw [hw1] at fa ba
  have hR1 := hR.fr fa (by simp)
  have hnD : ¬ D w.heap.size := fun hd => by have := hR.lt _ hd; omega
  have a1 : w1.cell? ⟨w.heap.size, 1, none⟩ = some (.int .i64 r.grp) := ba.cell 1
  obtain ⟨w2, D2, fs2, i, hi, e2, hR2, hin, hT, c2⟩ := team59 hR1 r.grp
  obtain ⟨S2, g2, hS2⟩ := c2.fr
  have ba2 := ba.fr g2 (fun hm => hnD (hS2 _ hm))
  have fd := Fr.drew [] w2
  have ba3 := ba2.fr fd (by simp)
  have hR3 := hR2.fr fd (by simp)
  have ok3 := hR3.gs.ok i hi
  obtain ⟨f, hf⟩ : ∃ f, fs2[i] = f := ⟨_, rfl⟩
  rw [hf] at ok3 e2
  have hfn : f.n = r.grp := by rw [← hf]; exact hin
  have d0 : w2.cell? ⟨w.heap.size, 0, none⟩ = some (.int .i64 r.k) := ba2.cell 0
  have d2 : w2.drew.cell? ⟨w.heap.size, 2, none⟩ = some (.int .i64 r.gen) := ba3.cell 2
  have d4 : w2.drew.cell? ⟨w.heap.size, 4, none⟩ = some (.int .i64 r.part) := ba3.cell 4
  have d5 : w2.drew.cell? ⟨w.heap.size, 5, none⟩ = some (.int .i64 r.off) := ba3.cell 5
  have p0 : w2.drew.cell? ⟨f.p, 0, none⟩ = some (.int .i64 f.v.gen) := ok3.blk.cell 0
  have p2 : w2.drew.cell? ⟨f.p, 2, none⟩ = some (.map (some f.om)) := ok3.blk.cell 2
  have C3 : Chg D w w2.drew D2 := by
    refine ⟨⟨S2, by simpa using (fa.app g2).app fd, hS2⟩, c2.up, fun y hy => ?_⟩
    have := fa.size
    rcases c2.new y hy with hh | hh
    · exact .inl hh
    · exact .inr (by omega)
  have hdo : ∀ g : TV → TV, (∀ t, stepG r t = g t) → doT (fs.map GE.ab) r = (fs2.map GE.ab).set i (r.grp, g f.v) := by
    intro g hg
    unfold doT
    have : (fun o : Option TV => stepG r (o.getD tv0)) = fun o => g (o.getD tv0) := by funext o; rw [hg]
    rw [this, hT g, hf]
  have same : fs2.map GE.ab = (fs2.map GE.ab).set i (r.grp, f.v) := by
    apply List.ext_getElem
    · simp
    · intro j h1 h2
      rw [List.getElem_set]
      split
      · rename_i e; subst e; simp [GE.ab, hf, hfn]
      · rfl
  by_cases hk : r.k = 1
  · have k0 : (r.k == 1) = true := by simp [hk]
    by_cases hg : f.v.gen < r.gen
    · have k1 : decide (r.gen > f.v.gen) = true := by simp [hg]
      have fd2 := Fr.drew [] w2.drew
      have hR4 := hR3.fr fd2 (by simp)
      have ba4 := ba3.fr fd2 (by simp)
      have ok4 := ok3.fr fd2 (by simp) (by simp) (by simp) (fun _ => id)
      have hu4 : SlI .i64 w2.drew.drew q r.mem := by
        exact (((hu.fr3 fa (by simp)).fr3 g2 (fun h0 y hy hm => hqD h0 y hy (hS2 y hm))).fr3 fd (by simp)).fr3 fd2 (by simp)
      have a3 : w2.drew.drew.cell? ⟨w.heap.size, 3, none⟩ = some (.slice q.1 q.2.1 q.2.2) := ba4.cell 3
      have a2 : w2.drew.drew.cell? ⟨w.heap.size, 2, none⟩ = some (.int .i64 r.gen) := ba4.cell 2
      obtain ⟨q5, w5, e5, o5, f5, n5⟩ := clone36 hu4.slC hq (by omega)
      have ba5 := ba4.fr f5 (by simp)
      have a25 : w5.cell? ⟨w.heap.size, 2, none⟩ = some (.int .i64 r.gen) := ba5.cell 2
      have ok5 := ok4.fr f5 (by simp) (by simp) (by simp) (fun _ => id)
      have hR5 := hR4.fr f5 (by simp)
      have s6 : st1 w5 ⟨f.p, 0, none⟩ (.int .i64 r.gen) = some (w5.setCell ⟨f.p, 0, none⟩ (.int .i64 r.gen)) := ok5.blk.st1 (by simp [GE.cs]) rfl
      have g6 : Fr [f.p] w5 (w5.setCell ⟨f.p, 0, none⟩ (.int .i64 r.gen)) := Fr.setCell
      have b6 := ok5.blk.set 0 (.int .i64 r.gen)
      obtain ⟨w6, hw6⟩ : ∃ w6, w5.setCell ⟨f.p, 0, none⟩ (.int .i64 r.gen) = w6 := ⟨_, rfl⟩
      rw [hw6] at s6 g6 b6
      have s7 : st1 w6 ⟨f.p, 1, none⟩ (.slice q5.1 q5.2.1 q5.2.2) = some (w6.setCell ⟨f.p, 1, none⟩ (.slice q5.1 q5.2.1 q5.2.2)) := b6.st1 (by simp [GE.cs]) rfl
      have g7 : Fr [f.p] w6 (w6.setCell ⟨f.p, 1, none⟩ (.slice q5.1 q5.2.1 q5.2.2)) := Fr.setCell
      have b7 := b6.set 1 (.slice q5.1 q5.2.1 q5.2.2)
      obtain ⟨w7, hw7⟩ : ∃ w7, w6.setCell ⟨f.p, 1, none⟩ (.slice q5.1 q5.2.1 q5.2.2) = w7 := ⟨_, rfl⟩
      rw [hw7] at s7 g7 b7
      have G57 : Fr [f.p] w5 w7 := (g6.app g7).mono (by intro y hy _; simpa using hy)
      have nq5 : f.p ∉ blkOf q5 := ok5.blk.notin o5 (by decide)
      have o7 := o5.fr G57 (by intro y hy hm; simp at hm; subst hm; exact nq5 hy)
      have hm7 := ok5.mp.fr G57 (by simpa using ok5.mp.ne_blk ok5.blk)
      let f' : GE := ⟨f.n, f.p, f.om, q5, ⟨r.gen, r.mem, f.v.offs⟩⟩
      have b7' : Blk w7 f'.p f'.cs 92 := b7
      have sz : w2.drew.drew.heap.size ≤ w5.heap.size := f5.size
      have sz7 := G57.size
      have ok7 : GeOk w7 (fun y => D2 y ∨ y ∈ blkOf q5) f' := ⟨b7', o7, hm7, ⟨.inl ok5.reg.1, .inl ok5.reg.2.1, fun y hy => .inr hy⟩, by show r.mem.length ≤ 1000000; omega⟩
      have hR7 := hR5.put (D' := fun y => D2 y ∨ y ∈ blkOf q5) hi (f := f') (by rw [hf]) (by rw [hf]) (by rw [hf]) G57 (by rw [hf]; intro y hy _; simp at hy; exact .inl hy) (fun _ => .inl) ok7 (by
        intro y hy
        rcases hy with hy | hy
        · have := hR5.lt y hy; omega
        · have := o7.lt y hy; omega)
      have hst : doT (fs.map GE.ab) r = (fs2.set i f').map GE.ab := by
        rw [hdo (fun t => if t.gen < r.gen then ⟨r.gen, r.mem, t.offs⟩ else t) (fun t => by unfold stepG; rw [if_pos hk]), List.map_set]
        simp [GE.ab, f', hg, hfn]
      have F35 : Fr [] w2.drew w5 := (Fr.mono (Fr.app fd2 f5) (by have z0_ := Fr.size fd2; have z1_ := Fr.size f5; intro y_ hy_ hl_; grind [blkOf]))
      refine ⟨w7, fun y => D2 y ∨ y ∈ blkOf q5, g43_call ?_, ⟨r1, r2, _, hst, hR7⟩, ?_⟩
      · unfold g43
        rw [hw1]
        simp only [addr_add, Nat.zero_add, a1, e2, d0, k0, d2, p0, k1, a3, a2, e5, a25, obs, asP_pointer, asB_bool, asI_int, asS_string, asSl_slice, asM_map, asTup0, asTup1, asTup2, asTup3, asTup4, asTup5, asTup6, asTup7, asTup8, asTup9, asAgg2, asAgg3, asAgg4, asAgg5, asAgg6, asAgg7, asAgg8, asAgg9, asAgg12, getD0, getD1, getD2, getD3, getD4, getD5, getD6, getD7, getD8, getD9, getD10, getD11, getD12, getD13, getD14, getD15, getD16, getD17, getD18, getD19, Bool.not_true, Bool.not_false, Bool.false_eq_true, Bool.true_eq_false, ↓reduceIte, decide_true, decide_false, Option.isNone_some, Option.isNone_none, Option.isSome_some, Option.isSome_none, beq_self_eq_true, bne_self_eq_false, Bool.and_true, Bool.true_and, Bool.and_false, Bool.false_and, not_true_eq_false, not_false_eq_true]
        split
        · unfold g43_j27
          simp only [addr_add, Nat.zero_add, s6, s7, obs, asP_pointer, asB_bool, asI_int, asS_string, asSl_slice, asM_map, asTup0, asTup1, asTup2, asTup3, asTup4, asTup5, asTup6, asTup7, asTup8, asTup9, asAgg2, asAgg3, asAgg4, asAgg5, asAgg6, asAgg7, asAgg8, asAgg9, asAgg12, getD0, getD1, getD2, getD3, getD4, getD5, getD6, getD7, getD8, getD9, getD10, getD11, getD12, getD13, getD14, getD15, getD16, getD17, getD18, getD19, Bool.not_true, Bool.not_false, Bool.false_eq_true, Bool.true_eq_false, ↓reduceIte, decide_true, decide_false, Option.isNone_some, Option.isNone_none, Option.isSome_some, Option.isSome_none, beq_self_eq_true, bne_self_eq_false, Bool.and_true, Bool.true_and, Bool.and_false, Bool.false_and, not_true_eq_false, not_false_eq_true]
        · unfold g43_j27
          simp only [addr_add, Nat.zero_add, s6, s7, obs, asP_pointer, asB_bool, asI_int, asS_string, asSl_slice, asM_map, asTup0, asTup1, asTup2, asTup3, asTup4, asTup5, asTup6, asTup7, asTup8, asTup9, asAgg2, asAgg3, asAgg4, asAgg5, asAgg6, asAgg7, asAgg8, asAgg9, asAgg12, getD0, getD1, getD2, getD3, getD4, getD5, getD6, getD7, getD8, getD9, getD10, getD11, getD12, getD13, getD14, getD15, getD16, getD17, getD18, getD19, Bool.not_true, Bool.not_false, Bool.false_eq_true, Bool.true_eq_false, ↓reduceIte, decide_true, decide_false, Option.isNone_some, Option.isNone_none, Option.isSome_some, Option.isSome_none, beq_self_eq_true, bne_self_eq_false, Bool.and_true, Bool.true_and, Bool.and_false, Bool.false_and, not_true_eq_false, not_false_eq_true]
      · obtain ⟨S3, h3, hS3⟩ := C3.fr
        have z3 := C3.size
        refine C3.trans ⟨⟨[f.p], by simpa using (F35.app G57), by intro y hy; simp at hy; subst hy; exact ok3.reg.1⟩, fun _ => .inl, fun y hy => ?_⟩ hR.lt
        rcases hy with hy | hy
        · exact .inl hy
        · have := n5 y hy; exact .inr this
    · have k1 : decide (r.gen > f.v.gen) = false := by simp; omega
      have hst : doT (fs.map GE.ab) r = fs2.map GE.ab := by
        rw [hdo (fun t => if t.gen < r.gen then ⟨r.gen, r.mem, t.offs⟩ else t) (fun t => by unfold stepG; rw [if_pos hk]), if_neg hg, ← same]
      refine ⟨w2.drew, D2, g43_call ?_, ⟨r1, r2, fs2, hst, hR3⟩, C3⟩
      unfold g43
      rw [hw1]
      simp only [addr_add, Nat.zero_add, a1, e2, d0, k0, d2, p0, k1, obs, asP_pointer, asB_bool, asI_int, asS_string, asSl_slice, asM_map, asTup0, asTup1, asTup2, asTup3, asTup4, asTup5, asTup6, asTup7, asTup8, asTup9, asAgg2, asAgg3, asAgg4, asAgg5, asAgg6, asAgg7, asAgg8, asAgg9, asAgg12, getD0, getD1, getD2, getD3, getD4, getD5, getD6, getD7, getD8, getD9, getD10, getD11, getD12, getD13, getD14, getD15, getD16, getD17, getD18, getD19, Bool.not_true, Bool.not_false, Bool.false_eq_true, Bool.true_eq_false, ↓reduceIte, decide_true, decide_false, Option.isNone_some, Option.isNone_none, Option.isSome_some, Option.isSome_none, beq_self_eq_true, bne_self_eq_false, Bool.and_true, Bool.true_and, Bool.and_false, Bool.false_and, not_true_eq_false, not_false_eq_true]
  · have k0 : (r.k == 1) = false := by simp [hk]
    have lk := look1 ok3.mp r.part
    rw [offV_get] at lk
    obtain ⟨w4, e4, m4, f4⟩ := ok3.mp.upd keyOk_i r.part (.int .i64 (maxI r.off ((kget f.v.offs r.part).getD 0)))
    have hup := offV_ups f.v.offs r.part (fun o => maxI r.off (o.getD 0))
    rw [hup] at m4
    let f' : GE := ⟨f.n, f.p, f.om, f.q, ⟨f.v.gen, f.v.mem, kups f.v.offs r.part (fun o => maxI r.off (o.getD 0))⟩⟩
    have hnp : f.om ≠ f.p := ok3.mp.ne_blk ok3.blk
    have hnq := ok3.mp.notin ok3.own
    have ok4 : GeOk w4 D2 f' := ⟨ok3.blk.fr f4 (by simpa using hnp.symm), ok3.own.fr f4 (by intro y hy hm; simp at hm; subst hm; exact hnq hy), m4, ok3.reg, ok3.len⟩
    have z4 := f4.size
    have hR4 := hR3.put (D' := D2) hi (f := f') (by rw [hf]) (by rw [hf]) (by rw [hf]) f4 (by rw [hf]; intro y hy _; simp at hy; exact .inr hy) (fun _ => id) ok4 (fun y hy => by have := hR3.lt y hy; omega)
    have hst : doT (fs.map GE.ab) r = (fs2.set i f').map GE.ab := by
      rw [hdo (fun t => { t with offs := kups t.offs r.part (fun o => maxI r.off (o.getD 0)) }) (fun t => by unfold stepG; rw [if_neg hk]), List.map_set]
      simp [GE.ab, f', hfn]
    have hgd : ∃ z : Int, ((kget f.v.offs r.part).map (Value.int .i64)).getD (.int .i64 0) = .int .i64 z ∧ z = (kget f.v.offs r.part).getD 0 := by
      cases kget f.v.offs r.part <;> exact ⟨_, rfl, rfl⟩
    obtain ⟨z, hz1, hz2⟩ := hgd
    have hmx : (if r.off > z then r.off else z) = maxI r.off ((kget f.v.offs r.part).getD 0) := by rw [hz2]; rfl
    refine ⟨w4, D2, g43_call ?_, ⟨r1, r2, _, hst, hR4⟩, ?_⟩
    · unfold g43
      rw [hw1]
      simp only [addr_add, Nat.zero_add, a1, e2, d0, k0, p2, d4, lk, hz1, d5, hmx, e4, obs, asP_pointer, asB_bool, asI_int, asS_string, asSl_slice, asM_map, asTup0, asTup1, asTup2, asTup3, asTup4, asTup5, asTup6, asTup7, asTup8, asTup9, asAgg2, asAgg3, asAgg4, asAgg5, asAgg6, asAgg7, asAgg8, asAgg9, asAgg12, getD0, getD1, getD2, getD3, getD4, getD5, getD6, getD7, getD8, getD9, getD10, getD11, getD12, getD13, getD14, getD15, getD16, getD17, getD18, getD19, Bool.not_true, Bool.not_false, Bool.false_eq_true, Bool.true_eq_false, ↓reduceIte, decide_true, decide_false, Option.isNone_some, Option.isNone_none, Option.isSome_some, Option.isSome_none, beq_self_eq_true, bne_self_eq_false, Bool.and_true, Bool.true_and, Bool.and_false, Bool.false_and, not_true_eq_false, not_false_eq_true]
    · exact C3.trans ⟨⟨[f.om], f4, by intro y hy; simp at hy; subst hy; exact ok3.reg.2.1⟩, fun _ => id, fun _ => .inl⟩ hR.lt
end
end Go.Proofs.Ytcakijeoeankfaa
