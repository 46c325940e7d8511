/-
  ImageAc: lemmas on what Go functions of this seat come to (for whatever arguments, as each says). No condition but those that stand in each lemma.
-/
import Derived.Test.YtjcenfgmpbeldaaImageAb
namespace Go.Proofs.Ytjcenfgmpbeldaa
open Go Go.Ev
set_option maxRecDepth 100000
set_option linter.unusedVariables false
set_option linter.unusedSimpArgs false

def cv02 : CV := ⟨0, 0, 0, 0, 0, []⟩
theorem copyN2 {w : World} {u : Sh} {xs : List Int} (hu : SlI .i64 w u xs) (hl : xs.length ≤ 17592186043904) : ∃ v w', callB Try.prog .append #[28, 28] 28 #[false, false] #[.slice (some ⟨w.heap.size, 0, none⟩) 0 0, .slice u.1 u.2.1 u.2.2] (w.alloc (.cells #[] 3)) = some (.slice v.1 v.2.1 v.2.2, w') ∧ Own w' 3 1 v (intsV' xs) ∧ Fr [] w w' ∧ ∀ y ∈ blkOf v, w.heap.size ≤ y := by
  have hml : maxLen = 9223372036854775807 := by decide
  have hul := hu.1
  obtain ⟨v, w', e, o, f, n, _⟩ := app_empty t28 hu.slC (by intro y hy; obtain ⟨z, _, rfl⟩ := List.mem_map.mp hy; rfl) (by omega) (by omega) 28 #[false, false]
  exact ⟨v, w', e, o, f, n⟩
theorem cvcs_oc2 (r : CV) (q : Sh) : ∀ u ∈ r.cs q, u.oneCell' = true := by
  intro u hu
  simp only [CV.cs, List.mem_cons, List.not_mem_nil, or_false] at hu
  rcases hu with rfl | rfl | rfl | rfl | rfl | rfl <;> rfl
theorem zero332 (w : World) : Blk (w.alloc (.cells #[.int .i64 0, .int .i64 0, .int .i64 0, .int .i64 0, .int .i64 0, .slice none 0 0] 33)) w.heap.size (cv02.cs (none, 0, 0)) 33 ∧
    Fr [] w (w.alloc (.cells #[.int .i64 0, .int .i64 0, .int .i64 0, .int .i64 0, .int .i64 0, .slice none 0 0] 33)) := ⟨Blk.new w (cv02.cs (none, 0, 0)) 33, Fr.alloc _⟩
theorem retC2 {w x : World} {g : Nat} {cs : List Value} (hb : Blk x g cs 33) (hl : cs.length = 6) (hf : Fr [] w x) (hg : w.heap.size ≤ g) (r : CV) (q : Sh) :
    ∃ w', stL x ⟨g, 0, none⟩ [.int .i64 r.k, .int .i64 r.nd, .int .i64 r.pt, .int .i64 r.ep, .int .i64 r.vr, .slice q.1 q.2.1 q.2.2] 0 = some w' ∧
      ldN w' ⟨g, 0, none⟩ 0 6 = some [.int .i64 r.k, .int .i64 r.nd, .int .i64 r.pt, .int .i64 r.ep, .int .i64 r.vr, .slice q.1 q.2.1 q.2.2] ∧ Fr [] w w' ∧ Fr [g] x w' := by
  obtain ⟨w', h1, h2, h3⟩ := hb.stL (vs := r.cs q) (by rw [hl]; rfl) (cvcs_oc2 r q)
  exact ⟨w', h1, h2.ldN (n := 6) rfl, (hf.app h3).mono (by intro y hy hl; simp at hy; omega), h3⟩
theorem newC2 (x : World) (r : CV) (q : Sh) : ∃ x', stL (x.alloc (.cells #[.int .i64 0, .int .i64 0, .int .i64 0, .int .i64 0, .int .i64 0, .slice none 0 0] 33)) ⟨x.heap.size, 0, none⟩ [.int .i64 r.k, .int .i64 r.nd, .int .i64 r.pt, .int .i64 r.ep, .int .i64 r.vr, .slice q.1 q.2.1 q.2.2] 0 = some x' ∧
    Blk x' x.heap.size (r.cs q) 33 ∧ Fr [] x x' ∧ ldN x' ⟨x.heap.size, 0, none⟩ 0 6 = some [.int .i64 r.k, .int .i64 r.nd, .int .i64 r.pt, .int .i64 r.ep, .int .i64 r.vr, .slice q.1 q.2.1 q.2.2] := by
  obtain ⟨b, f⟩ := zero332 x
  obtain ⟨x', h1, h2, h3⟩ := b.stL (vs := r.cs q) rfl (cvcs_oc2 r q)
  exact ⟨x', h1, h2, (f.app h3).mono (by intro y hy hl; simp at hy; omega), h2.ldN (n := 6) rfl⟩


theorem own142 (w : World) (r : CV) {q : Sh} (hu : SlI .i64 w q r.ls) (hl : r.ls.length ≤ 17592186043904) : ∃ v w', callF Try.prog 14 #[r.arg q] w = some (r.arg v, w') ∧ Own w' 3 1 v (intsV' r.ls) ∧ Fr [] w w' ∧ ∀ y ∈ blkOf v, w.heap.size ≤ y := by
  have fa : Fr [] w (w.alloc (.cells #[.int .i64 r.k, .int .i64 r.nd, .int .i64 r.pt, .int .i64 r.ep, .int .i64 r.vr, .slice q.1 q.2.1 q.2.2] 33)) := Fr.alloc _
  have ba := Blk.new w (r.cs q) 33
  change Blk (w.alloc (.cells #[.int .i64 r.k, .int .i64 r.nd, .int .i64 r.pt, .int .i64 r.ep, .int .i64 r.vr, .slice q.1 q.2.1 q.2.2] 33)) _ _ _ at ba
  obtain ⟨w1, hw1⟩ : ∃ w1, w.alloc (.cells #[.int .i64 r.k, .int .i64 r.nd, .int .i64 r.pt, .int .i64 r.ep, .int .i64 r.vr, .slice q.1 q.2.1 q.2.2] 33) = w1 := ⟨_, rfl⟩
  rw [hw1] at fa ba
  obtain ⟨bz, fz⟩ := zero332 w1
  obtain ⟨w2, hw2⟩ : ∃ w2, w1.alloc (.cells #[.int .i64 0, .int .i64 0, .int .i64 0, .int .i64 0, .int .i64 0, .slice none 0 0] 33) = w2 := ⟨_, rfl⟩
  rw [hw2] at bz fz
  have F2 : Fr [] w w2 := (Fr.mono (Fr.app fa fz) (by have z0_ := Fr.size fa; have z1_ := Fr.size fz; intro y_ hy_ hl_; grind [blkOf]))
  obtain ⟨v, w3, e3, o3, f3, n3⟩ := copyN2 (hu.fr3 F2 (by simp)) hl
  have fe : Fr [] w2 (w2.alloc (.cells #[] 3)) := Fr.alloc _
  have c5 : (w2.alloc (.cells #[] 3)).cell? ⟨w.heap.size, 5, none⟩ = some (.slice q.1 q.2.1 q.2.2) := ((ba.fr fz (by simp)).fr fe (by simp)).cell 5
  have b3 := (ba.fr fz (by simp)).fr f3 (by simp)
  have z3 := bz.fr f3 (by simp)
  have z1 := fa.size
  have z2 := fz.size
  obtain ⟨w4, hw4⟩ : ∃ w4, w3.setCell ⟨w.heap.size, 5, none⟩ (.slice v.1 v.2.1 v.2.2) = w4 := ⟨_, rfl⟩
  have s4 : st1 w3 ⟨w.heap.size, 5, none⟩ (.slice v.1 v.2.1 v.2.2) = some w4 := by rw [← hw4]; exact b3.st1 (by simp [CV.cs]) rfl
  have b4 : Blk w4 w.heap.size (r.cs v) 33 := by rw [← hw4]; exact b3.set 5 _
  have f4 : Fr [w.heap.size] w3 w4 := by rw [← hw4]; exact Fr.setCell
  have l4 := b4.ldN (n := 6) rfl
  have lb := ba.lt
  have z4 := z3.fr f4 (by simp; omega)
  have F4 : Fr [] w w4 := ((Fr.mono (Fr.app F2 f3) (by have z0_ := Fr.size F2; have z1_ := Fr.size f3; intro y_ hy_ hl_; grind [blkOf])) : Fr [] w w3).app f4 |>.mono (by intro y hy hl; simp at hy; omega)
  obtain ⟨w', r1, r2, r3, r4⟩ := retC2 z4 rfl F4 z1 r v
  have o4 := (o3.fr f4 (by intro y hy hm; simp at hm; have := n3 y hy; omega)).fr r4 (by intro y hy hm; simp at hm; have := n3 y hy; have := bz.lt; omega)
  refine ⟨v, w', g14_call ?_, o4, r3, fun y hy => by have := n3 y hy; omega⟩
  unfold g14
  simp only [hw1, hw2]
  simp only [CV.cs] at l4
  simp only [addr_add, Nat.zero_add, c5, e3, s4, l4, r1, r2, obs, asP_pointer, asB_bool, asI_int, asS_string, asSl_slice, asM_map, asTup0, asTup1, asTup2, asTup3, asTup4, asTup5, asTup6, asTup7, asTup8, asTup9, asAgg2, asAgg3, asAgg4, asAgg5, asAgg6, asAgg7, asAgg8, asAgg9, asAgg12, getD0, getD1, getD2, getD3, getD4, getD5, getD6, getD7, getD8, getD9, getD10, getD11, getD12, getD13, getD14, getD15, getD16, getD17, getD18, getD19, Bool.not_true, Bool.not_false, Bool.false_eq_true, Bool.true_eq_false, ↓reduceIte, decide_true, decide_false, Option.isNone_some, Option.isNone_none, Option.isSome_some, Option.isSome_none, beq_self_eq_true, bne_self_eq_false, Bool.and_true, Bool.true_and, Bool.and_false, Bool.false_and, not_true_eq_false, not_false_eq_true]
  rfl

theorem has17 {w : World} {q : Sh} {l : List Int} (h : SlC w 1 q (intsV' l)) (hn : l.length < 9223372036854775807) (v : Int) :
    callF Try.prog 17 #[.slice q.1 q.2.1 q.2.2, .int .i64 v] w = some (.bool (decide (v ∈ l)), w) := by
  have hl := h.1
  simp only [List.length_map] at hl
  obtain ⟨e, t, w', g1, rfl, hQ⟩ := loopS_rule (b := g17_l1_b q v) (I := fun k s x => s = (false, (k : Int)) ∧ x = w ∧ v ∉ l.take k)
    (Q := fun e s x => x = w ∧ (e = .ret ∧ s.1 = true ∧ v ∈ l ∨ e = .exit 0 ∧ v ∉ l)) (n := l.length)
    (fun k s x hk ⟨hs, hx, hv⟩ => by
      subst hs hx
      obtain ⟨a, i1, c1⟩ := h.get (i := k) (by simpa using hk)
      have k1 : decide ((k : Int) < (q.2.1 : Int)) = true := by simp; omega
      have c1' : x.cell? a = some (.int .i64 l[k]) := by rw [c1]; simp
      have hw := wrap_succ (n := k) (by omega)
      by_cases he : l[k] = v
      · have k2 : (l[k] == v) = true := by simp [he]
        refine ⟨.ret, (true, (k : Int)), x, ?_, .inr ⟨by simp, rfl, .inl ⟨rfl, rfl, by rw [← he]; exact List.getElem_mem hk⟩⟩⟩
        unfold g17_l1_b
        simp only [k1, i1, c1', k2, obs, asP_pointer, asB_bool, asI_int, asS_string, asSl_slice, asM_map, asTup0, asTup1, asTup2, asTup3, asTup4, asTup5, asTup6, asTup7, asTup8, asTup9, asAgg2, asAgg3, asAgg4, asAgg5, asAgg6, asAgg7, asAgg8, asAgg9, asAgg12, getD0, getD1, getD2, getD3, getD4, getD5, getD6, getD7, getD8, getD9, getD10, getD11, getD12, getD13, getD14, getD15, getD16, getD17, getD18, getD19, Bool.not_true, Bool.not_false, Bool.false_eq_true, Bool.true_eq_false, ↓reduceIte, decide_true, decide_false, Option.isNone_some, Option.isNone_none, Option.isSome_some, Option.isSome_none, beq_self_eq_true, bne_self_eq_false, Bool.and_true, Bool.true_and, Bool.and_false, Bool.false_and, not_true_eq_false, not_false_eq_true]
      · have k2 : (l[k] == v) = false := by simp [he]
        refine ⟨.normal, (false, ((k + 1 : Nat) : Int)), x, ?_, .inl ⟨rfl, rfl, rfl, ?_⟩⟩
        · unfold g17_l1_b
          simp only [k1, i1, c1', k2, hw, obs, asP_pointer, asB_bool, asI_int, asS_string, asSl_slice, asM_map, asTup0, asTup1, asTup2, asTup3, asTup4, asTup5, asTup6, asTup7, asTup8, asTup9, asAgg2, asAgg3, asAgg4, asAgg5, asAgg6, asAgg7, asAgg8, asAgg9, asAgg12, getD0, getD1, getD2, getD3, getD4, getD5, getD6, getD7, getD8, getD9, getD10, getD11, getD12, getD13, getD14, getD15, getD16, getD17, getD18, getD19, Bool.not_true, Bool.not_false, Bool.false_eq_true, Bool.true_eq_false, ↓reduceIte, decide_true, decide_false, Option.isNone_some, Option.isNone_none, Option.isSome_some, Option.isSome_none, beq_self_eq_true, bne_self_eq_false, Bool.and_true, Bool.true_and, Bool.and_false, Bool.false_and, not_true_eq_false, not_false_eq_true]
        · rw [List.take_succ_eq_append_getElem hk]
          intro hm
          rcases List.mem_append.mp hm with hm | hm
          · exact hv hm
          · simp only [List.mem_singleton] at hm; exact he hm.symm)
    (fun s x ⟨hs, hx, hv⟩ => by
      subst hs hx
      rw [List.take_length] at hv
      refine ⟨.exit 0, (false, (l.length : Int)), x, ?_, by simp, rfl, .inr ⟨rfl, hv⟩⟩
      unfold g17_l1_b
      have k1 : decide ((l.length : Int) < (q.2.1 : Int)) = false := by simp; omega
      simp only [k1, Bool.false_eq_true, if_false]) (k := 0) (s := (false, (0 : Int))) (w := w) (Nat.zero_le _) ⟨rfl, rfl, by simp⟩
  rcases hQ with ⟨rfl, h0, hv⟩ | ⟨rfl, hv⟩
  · refine g17_call ?_
    have : decide (v ∈ l) = true := by simp [hv]
    rw [this]
    unfold g17
    rw [g17_l1_ret_of g1, g17_l1_ret, h0]
  · refine g17_call ?_
    have : decide (v ∈ l) = false := by simp [hv]
    rw [this]
    unfold g17
    rw [g17_l1_x0_of g1, g17_l1_x0]

/-- some cells of a block are written -/
theorem Blk.stL_at {T : TypeId} {g : Nat} : ∀ {vs : List Value} {ps ms ss : List Value} {w : World} {i : Nat}, vs.length = ms.length → (∀ v ∈ vs, v.oneCell' = true) → Blk w g (ps ++ ms ++ ss) T → ∀ o, o + i = ps.length →
    ∃ w', stL w ⟨g, o, none⟩ vs i = some w' ∧ Blk w' g (ps ++ vs ++ ss) T ∧ Fr [g] w w'
  | [], ps, [], ss, w, i, _, _, h, o, _ => ⟨w, rfl, h, Fr.refl _ _⟩
  | v :: vs, ps, m :: ms, ss, w, i, hl, hv, h, o, ho => by
    have s1 : Ev.st1 w ⟨g, ps.length, none⟩ v = some (w.setCell ⟨g, ps.length, none⟩ v) := h.st1 (by simp) (hv v (by simp))
    have b1 := h.set ps.length v
    have e1 : (ps ++ m :: ms ++ ss).set ps.length v = (ps ++ [v]) ++ ms ++ ss := by simp
    rw [e1] at b1
    have f1 : Fr [g] w (w.setCell ⟨g, ps.length, none⟩ v) := Fr.setCell
    obtain ⟨w', s, b, f⟩ := Blk.stL_at (vs := vs) (ps := ps ++ [v]) (ms := ms) (ss := ss) (i := i + 1) (by simpa using hl) (fun x hx => hv x (by simp [hx])) b1 o (by simp; omega)
    refine ⟨w', ?_, by simpa using b, f1.trans f⟩
    rw [stL, addr_add, ho, s1]
    exact s
  | _ :: _, _, [], _, _, _, hl, _, _, _, _ => by simp at hl
  | [], _, _ :: _, _, _, _, hl, _, _, _, _ => by simp at hl

/-- a row of parts in a block: one is set -/
theorem parts_set {T : TypeId} {g : Nat} {w : World} {es : List PE} (h : Blk w g (ptCs es) T) {k : Nat} (hk : k < es.length) (e : PE) :
    ∃ w', stL w ⟨g, 0 + k * 6, none⟩ e.cs 0 = some w' ∧ Blk w' g (ptCs (es.set k e)) T ∧ Fr [g] w w' := by
  have hsp : ptCs es = ptCs (es.take k) ++ es[k].cs ++ ptCs (es.drop (k + 1)) := by
    unfold ptCs
    have : es = es.take k ++ es[k] :: es.drop (k + 1) := by rw [← List.drop_eq_getElem_cons hk, List.take_append_drop]
    have := congrArg (fun l => (List.map PE.cs l).flatten) this
    simp only [List.map_append, List.map_cons, List.flatten_append, List.flatten_cons] at this
    rw [this, List.append_assoc]
  have hsp2 : ptCs (es.set k e) = ptCs (es.take k) ++ e.cs ++ ptCs (es.drop (k + 1)) := by
    unfold ptCs
    rw [List.set_eq_take_append_cons_drop, if_pos hk]
    simp
  rw [hsp] at h
  have hpl : (ptCs (es.take k)).length = 6 * k := by rw [ptCs_len, List.length_take, Nat.min_eq_left (by omega)]
  obtain ⟨w', s, b, f⟩ := Blk.stL_at (vs := e.cs) (ps := ptCs (es.take k)) (ms := es[k].cs) (ss := ptCs (es.drop (k + 1))) (i := 0) rfl (by
    intro u hu
    simp only [PE.cs, PV.cs, List.mem_cons, List.not_mem_nil, or_false] at hu
    rcases hu with rfl | rfl | rfl | rfl | rfl | rfl <;> rfl) h (0 + k * 6) (by omega)
  exact ⟨w', s, by rw [hsp2]; exact b, f⟩
theorem parts_get {T : TypeId} {g : Nat} {w : World} {es : List PE} (h : Blk w g (ptCs es) T) {k : Nat} (hk : k < es.length) {j : Nat} (hj : j < 6) :
    w.cell? ⟨g, 0 + k * 6 + j, none⟩ = (es[k].cs)[j]? := by
  rw [h.cell, show 0 + k * 6 + j = 6 * k + j by omega]
  exact flat_get pef_len es k j hk hj
theorem parts_idx {g k n : Nat} (hk : k < n) : idxA (some ⟨g, 0, none⟩) n 6 (k : Int) = some ⟨g, 0 + k * 6, none⟩ := by
  unfold idxA
  rw [if_pos (by omega)]
  simp [addr_add]
end Go.Proofs.Ytjcenfgmpbeldaa
