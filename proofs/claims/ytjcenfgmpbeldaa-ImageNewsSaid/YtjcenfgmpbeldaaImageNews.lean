/-
  ImageNews: lemmas on what Go functions of this seat come to (for whatever arguments, as each says). No condition but those that stand in each lemma.
-/
import Derived.Test.YtjcenfgmpbeldaaImageAe
import Derived.Test.YtjcenfgmpbeldaaImageV2
import Derived.Test.YtjcenfgmpbeldaaImageL6
namespace Go.Proofs.Ytjcenfgmpbeldaa
open Go Go.Ev
set_option maxRecDepth 100000
set_option linter.unusedVariables false
set_option linter.unusedSimpArgs false

def PE.vsh (e : PE) : Value := e.v.arg e.qi e.qr e.qt

/-- the document's image in memory -/
structure RefR (w : World) (E : Nat → Prop) (p : Nat) (qa qc qb qp : Sh) (es : List PE) (m : IM) : Prop where
  blk : Blk w p [.slice qa.1 qa.2.1 qa.2.2, .slice qc.1 qc.2.1 qc.2.2, .slice qb.1 qb.2.1 qb.2.2, .slice qp.1 qp.2.1 qp.2.2, .int .u64 m.next, .int .i64 m.count] 89
  oa : Own w 4 1 qa (m.ns.map fun n => .bool n.al)
  oc : Own w 3 1 qc (m.ns.map fun n => .int .i64 n.cm)
  ob : Own w 38 1 qb (m.ns.map fun n => .int .u64 n.bk)
  op : Own w 30 6 qp (ptCs es)
  vs : es.map (·.v) = m.vs
  ok : ∀ e ∈ es, PeOk w E e
  pe : E p
  reg : (∀ y ∈ blkOf qa, E y) ∧ (∀ y ∈ blkOf qc, E y) ∧ (∀ y ∈ blkOf qb, E y) ∧ ∀ y ∈ blkOf qp, E y
  lt : ∀ y, E y → y < w.heap.size
def Ref (w : World) (E : Nat → Prop) (p : Nat) (m : IM) : Prop := ∃ qa qc qb qp es, RefR w E p qa qc qb qp es m

theorem RefR.fr {w w' : World} {E : Nat → Prop} {p : Nat} {qa qc qb qp : Sh} {es : List PE} {m : IM} {S : List Nat} (h : RefR w E p qa qc qb qp es m) (hf : Fr S w w') (hS : ∀ y ∈ S, y < w.heap.size → ¬ E y) : RefR w' E p qa qc qb qp es m := by
  have hf' := fr_old hf
  have hS' : ∀ y ∈ S.filter (· < w.heap.size), ¬ E y := by intro y hy; simp at hy; exact hS y hy.1 hy.2
  refine ⟨h.blk.fr hf' (fun hm => hS' _ hm h.pe), h.oa.fr hf' (fun y hy hm => hS' y hm (h.reg.1 y hy)), h.oc.fr hf' (fun y hy hm => hS' y hm (h.reg.2.1 y hy)), h.ob.fr hf' (fun y hy hm => hS' y hm (h.reg.2.2.1 y hy)), h.op.fr hf' (fun y hy hm => hS' y hm (h.reg.2.2.2 y hy)), h.vs,
    fun e he => (h.ok e he).fr hf' (fun y hy => ⟨fun hm => hS' y hy ((h.ok e he).reg.1 y hm), fun hm => hS' y hy ((h.ok e he).reg.2.1 y hm), fun hm => hS' y hy ((h.ok e he).reg.2.2 y hm)⟩) (fun _ => id), h.pe, h.reg, fun y hy => ?_⟩
  have := h.lt y hy; have := hf.size; omega
theorem Ref.fr {w w' : World} {E : Nat → Prop} {p : Nat} {m : IM} {S : List Nat} (h : Ref w E p m) (hf : Fr S w w') (hS : ∀ y ∈ S, y < w.heap.size → ¬ E y) : Ref w' E p m := by
  obtain ⟨qa, qc, qb, qp, es, h⟩ := h; exact ⟨qa, qc, qb, qp, es, h.fr hf hS⟩

/-- two parts that are one -/
theorem samePart43 {w : World} {v : PV} {qi qr qt ri rr rt : Sh} (h1 : SlI .i64 w qi v.isr) (h2 : SlI .i64 w qr v.rep) (h3 : SlI .i64 w qt v.tgt) (g1 : SlI .i64 w ri v.isr) (g2 : SlI .i64 w rr v.rep) (g3 : SlI .i64 w rt v.tgt)
    (l : v.isr.length ≤ 1000000000 ∧ v.rep.length ≤ 1000000000 ∧ v.tgt.length ≤ 1000000000) :
    ∃ w', callF Try.prog 43 #[v.arg qi qr qt, v.arg ri rr rt] w = some (.bool true, w') ∧ Fr [] w w' := by
  have fa : Fr [] w (w.alloc (.cells #[.int .i64 v.ld, .int .i64 v.ep, .int .i64 v.vr, .slice qi.1 qi.2.1 qi.2.2, .slice qr.1 qr.2.1 qr.2.2, .slice qt.1 qt.2.1 qt.2.2] 30)) := Fr.alloc _
  have ba : Blk (w.alloc (.cells #[.int .i64 v.ld, .int .i64 v.ep, .int .i64 v.vr, .slice qi.1 qi.2.1 qi.2.2, .slice qr.1 qr.2.1 qr.2.2, .slice qt.1 qt.2.1 qt.2.2] 30)) w.heap.size (v.cs qi qr qt) 30 := Blk.new w (v.cs qi qr qt) 30
  obtain ⟨w1, hw1⟩ : ∃ w1, w.alloc (.cells #[.int .i64 v.ld, .int .i64 v.ep, .int .i64 v.vr, .slice qi.1 qi.2.1 qi.2.2, .slice qr.1 qr.2.1 qr.2.2, .slice qt.1 qt.2.1 qt.2.2] 30) = w1 := ⟨_, rfl⟩
  rw [hw1] at fa ba
  have fb : Fr [] w1 (w1.alloc (.cells #[.int .i64 v.ld, .int .i64 v.ep, .int .i64 v.vr, .slice ri.1 ri.2.1 ri.2.2, .slice rr.1 rr.2.1 rr.2.2, .slice rt.1 rt.2.1 rt.2.2] 30)) := Fr.alloc _
  have bb : Blk (w1.alloc (.cells #[.int .i64 v.ld, .int .i64 v.ep, .int .i64 v.vr, .slice ri.1 ri.2.1 ri.2.2, .slice rr.1 rr.2.1 rr.2.2, .slice rt.1 rt.2.1 rt.2.2] 30)) w1.heap.size (v.cs ri rr rt) 30 := Blk.new w1 (v.cs ri rr rt) 30
  obtain ⟨w2, hw2⟩ : ∃ w2, w1.alloc (.cells #[.int .i64 v.ld, .int .i64 v.ep, .int .i64 v.vr, .slice ri.1 ri.2.1 ri.2.2, .slice rr.1 rr.2.1 rr.2.2, .slice rt.1 rt.2.1 rt.2.2] 30) = w2 := ⟨_, rfl⟩
  rw [hw2] at fb bb
  have F2 : Fr [] w w2 := (Fr.mono (Fr.app fa fb) (by have z0_ := Fr.size fa; have z1_ := Fr.size fb; intro y_ hy_ hl_; grind [blkOf]))
  have b1 := ba.fr fb (by simp)
  have a0 : w2.cell? ⟨w.heap.size, 0, none⟩ = some (.int .i64 v.ld) := b1.cell 0
  have a1 : w2.cell? ⟨w.heap.size, 1, none⟩ = some (.int .i64 v.ep) := b1.cell 1
  have a2 : w2.cell? ⟨w.heap.size, 2, none⟩ = some (.int .i64 v.vr) := b1.cell 2
  have a3 : w2.cell? ⟨w.heap.size, 3, none⟩ = some (.slice qi.1 qi.2.1 qi.2.2) := b1.cell 3
  have c0 : w2.cell? ⟨w1.heap.size, 0, none⟩ = some (.int .i64 v.ld) := bb.cell 0
  have c1 : w2.cell? ⟨w1.heap.size, 1, none⟩ = some (.int .i64 v.ep) := bb.cell 1
  have c2 : w2.cell? ⟨w1.heap.size, 2, none⟩ = some (.int .i64 v.vr) := bb.cell 2
  have c3 : w2.cell? ⟨w1.heap.size, 3, none⟩ = some (.slice ri.1 ri.2.1 ri.2.2) := bb.cell 3
  obtain ⟨w3, e3, f3⟩ := sameInts19 (h1.fr3 F2 (by simp)) (g1.fr3 F2 (by simp)) (by omega)
  have F3 : Fr [] w w3 := (Fr.mono (Fr.app F2 f3) (by have z0_ := Fr.size F2; have z1_ := Fr.size f3; intro y_ hy_ hl_; grind [blkOf]))
  have a4 : w3.cell? ⟨w.heap.size, 4, none⟩ = some (.slice qr.1 qr.2.1 qr.2.2) := (b1.fr f3 (by simp)).cell 4
  have c4 : w3.cell? ⟨w1.heap.size, 4, none⟩ = some (.slice rr.1 rr.2.1 rr.2.2) := (bb.fr f3 (by simp)).cell 4
  obtain ⟨w4, e4, f4⟩ := sameInts19 (h2.fr3 F3 (by simp)) (g2.fr3 F3 (by simp)) (by omega)
  have F4 : Fr [] w w4 := (Fr.mono (Fr.app F3 f4) (by have z0_ := Fr.size F3; have z1_ := Fr.size f4; intro y_ hy_ hl_; grind [blkOf]))
  have F24 : Fr [] w2 w4 := (Fr.mono (Fr.app f3 f4) (by have z0_ := Fr.size f3; have z1_ := Fr.size f4; intro y_ hy_ hl_; grind [blkOf]))
  have a5 : w4.cell? ⟨w.heap.size, 5, none⟩ = some (.slice qt.1 qt.2.1 qt.2.2) := (b1.fr F24 (by simp)).cell 5
  have c5 : w4.cell? ⟨w1.heap.size, 5, none⟩ = some (.slice rt.1 rt.2.1 rt.2.2) := (bb.fr F24 (by simp)).cell 5
  obtain ⟨w5, e5, f5⟩ := sameInts19 (h3.fr3 F4 (by simp)) (g3.fr3 F4 (by simp)) (by omega)
  have kk : ∀ l : List Int, decide (l = l) = true := fun l => by simp
  have nn : ∀ n : Int, (n == n) = true := fun n => by simp
  rw [kk] at e3 e4 e5
  refine ⟨w5, g43_call (u0c0 := v.ld) (u0c1 := v.ep) (u0c2 := v.vr) (u0c3 := qi) (u0c4 := qr) (u0c5 := qt) (u1c0 := v.ld) (u1c1 := v.ep) (u1c2 := v.vr) (u1c3 := ri) (u1c4 := rr) (u1c5 := rt) ?_, (Fr.mono (Fr.app F4 f5) (by have z0_ := Fr.size F4; have z1_ := Fr.size f5; intro y_ hy_ hl_; grind [blkOf]))⟩
  unfold g43
  simp only [hw1]
  simp only [hw2, addr_add, Nat.zero_add, a0, c0, nn, a1, c1, a2, c2, a3, c3, e3, a4, c4, e4, a5, c5, e5, obs, asP_pointer, asB_bool, asI_int, asS_string, asSl_slice, asM_map, asTup0, asTup1, asTup2, asTup3, asTup4, asTup5, asTup6, asTup7, asTup8, asTup9, asAgg2, asAgg3, asAgg4, asAgg5, asAgg6, asAgg7, asAgg8, asAgg9, asAgg12, getD0, getD1, getD2, getD3, getD4, getD5, getD6, getD7, getD8, getD9, getD10, getD11, getD12, getD13, getD14, getD15, getD16, getD17, getD18, getD19, Bool.not_true, Bool.not_false, Bool.false_eq_true, Bool.true_eq_false, ↓reduceIte, decide_true, decide_false, Option.isNone_some, Option.isNone_none, Option.isSome_some, Option.isSome_none, beq_self_eq_true, bne_self_eq_false, Bool.and_true, Bool.true_and, Bool.and_false, Bool.false_and, not_true_eq_false, not_false_eq_true]

/-- a list of a part is filled with sevens -/
theorem fill95 {w : World} {q : Sh} {l : List Int} {r61 : Value × World} {cs : List Value} {u0 u1 : Option Addr} {s59 : Bool × Int} {n4 : Int} (h : Own w 3 1 q (intsV' l)) (hl : l.length ≤ 1000000000) (hB : Blk w r61.2.heap.size cs 30) (hc : cs[3]? = some (.slice q.1 q.2.1 q.2.2)) :
    ∃ t w', loopS (g22_l95_b q r61 u0 u1 s59 n4) 0 w = some (.exit 4, t, w') ∧ Fr (blkOf q) w w' := by
  have hq := h.len
  simp only [intsV', List.length_map, Nat.mul_one] at hq
  obtain ⟨t, w', g1, rfl, l', o, hF, _⟩ := loopS_countX 4 (b := g22_l95_b q r61 u0 u1 s59 n4) (n := l.length)
    (I := fun k s x => s = (k : Int) ∧ ∃ l' : List Int, Own x 3 1 q (intsV' l') ∧ Fr (blkOf q) w x ∧ Blk x r61.2.heap.size cs 30)
    (fun k s x hk ⟨hs, l', o, hF, hBx⟩ => by
      subst hs
      have hql := o.len
      simp only [intsV', List.length_map, Nat.mul_one] at hql
      have c3 : x.cell? ⟨r61.2.heap.size, 3, none⟩ = some (.slice q.1 q.2.1 q.2.2) := by rw [hBx.cell 3]; exact hc
      obtain ⟨g, off, qa, i1, c1⟩ := ints_at o (i := k) (by omega)
      obtain ⟨s3, o3, f3⟩ := o.set qa (k := k) (by simp [intsV']; omega) (u := .int .i64 7) rfl
      have k0 : decide ((k : Int) < (q.2.1 : Int)) = true := by simp; omega
      have kw := wrap_succ (n := k) (by omega)
      refine ⟨_, _, ?_, rfl, l'.set k 7, by simpa [intsV', List.map_set] using o3, hF.trans f3, hBx.fr f3 (hBx.notin o (by decide))⟩
      unfold g22_l95_b
      simp only [k0, addr_add, Nat.zero_add, c3, i1, s3, kw, obs, asP_pointer, asB_bool, asI_int, asS_string, asSl_slice, asM_map, asTup0, asTup1, asTup2, asTup3, asTup4, asTup5, asTup6, asTup7, asTup8, asTup9, asAgg2, asAgg3, asAgg4, asAgg5, asAgg6, asAgg7, asAgg8, asAgg9, asAgg12, getD0, getD1, getD2, getD3, getD4, getD5, getD6, getD7, getD8, getD9, getD10, getD11, getD12, getD13, getD14, getD15, getD16, getD17, getD18, getD19, Bool.not_true, Bool.not_false, Bool.false_eq_true, Bool.true_eq_false, ↓reduceIte, decide_true, decide_false, Option.isNone_some, Option.isNone_none, Option.isSome_some, Option.isSome_none, beq_self_eq_true, bne_self_eq_false, Bool.and_true, Bool.true_and, Bool.and_false, Bool.false_and, not_true_eq_false, not_false_eq_true])
    (fun s x ⟨hs, _⟩ => by
      subst hs
      unfold g22_l95_b
      have k0 : decide ((l.length : Int) < (q.2.1 : Int)) = false := by simp; omega
      simp only [k0, Bool.false_eq_true, if_false]) (k := 0) (s := 0) (w := w) (Nat.zero_le _) ⟨rfl, l, h, Fr.refl _ _, hB⟩
  exact ⟨_, w', g1, hF⟩
theorem fill112 {w : World} {q : Sh} {l : List Int} {r61 : Value × World} {cs : List Value} {u0 u1 : Option Addr} {s59 : Bool × Int} {n4 : Int} (h : Own w 3 1 q (intsV' l)) (hl : l.length ≤ 1000000000) (hB : Blk w r61.2.heap.size cs 30) (hc : cs[4]? = some (.slice q.1 q.2.1 q.2.2)) :
    ∃ t w', loopS (g22_l112_b q r61 u0 u1 s59 n4) 0 w = some (.exit 6, t, w') ∧ Fr (blkOf q) w w' := by
  have hq := h.len
  simp only [intsV', List.length_map, Nat.mul_one] at hq
  obtain ⟨t, w', g1, rfl, l', o, hF, _⟩ := loopS_countX 6 (b := g22_l112_b q r61 u0 u1 s59 n4) (n := l.length)
    (I := fun k s x => s = (k : Int) ∧ ∃ l' : List Int, Own x 3 1 q (intsV' l') ∧ Fr (blkOf q) w x ∧ Blk x r61.2.heap.size cs 30)
    (fun k s x hk ⟨hs, l', o, hF, hBx⟩ => by
      subst hs
      have hql := o.len
      simp only [intsV', List.length_map, Nat.mul_one] at hql
      have c3 : x.cell? ⟨r61.2.heap.size, 4, none⟩ = some (.slice q.1 q.2.1 q.2.2) := by rw [hBx.cell 4]; exact hc
      obtain ⟨g, off, qa, i1, c1⟩ := ints_at o (i := k) (by omega)
      obtain ⟨s3, o3, f3⟩ := o.set qa (k := k) (by simp [intsV']; omega) (u := .int .i64 7) rfl
      have k0 : decide ((k : Int) < (q.2.1 : Int)) = true := by simp; omega
      have kw := wrap_succ (n := k) (by omega)
      refine ⟨_, _, ?_, rfl, l'.set k 7, by simpa [intsV', List.map_set] using o3, hF.trans f3, hBx.fr f3 (hBx.notin o (by decide))⟩
      unfold g22_l112_b
      simp only [k0, addr_add, Nat.zero_add, c3, i1, s3, kw, obs, asP_pointer, asB_bool, asI_int, asS_string, asSl_slice, asM_map, asTup0, asTup1, asTup2, asTup3, asTup4, asTup5, asTup6, asTup7, asTup8, asTup9, asAgg2, asAgg3, asAgg4, asAgg5, asAgg6, asAgg7, asAgg8, asAgg9, asAgg12, getD0, getD1, getD2, getD3, getD4, getD5, getD6, getD7, getD8, getD9, getD10, getD11, getD12, getD13, getD14, getD15, getD16, getD17, getD18, getD19, Bool.not_true, Bool.not_false, Bool.false_eq_true, Bool.true_eq_false, ↓reduceIte, decide_true, decide_false, Option.isNone_some, Option.isNone_none, Option.isSome_some, Option.isSome_none, beq_self_eq_true, bne_self_eq_false, Bool.and_true, Bool.true_and, Bool.and_false, Bool.false_and, not_true_eq_false, not_false_eq_true])
    (fun s x ⟨hs, _⟩ => by
      subst hs
      unfold g22_l112_b
      have k0 : decide ((l.length : Int) < (q.2.1 : Int)) = false := by simp; omega
      simp only [k0, Bool.false_eq_true, if_false]) (k := 0) (s := 0) (w := w) (Nat.zero_le _) ⟨rfl, l, h, Fr.refl _ _, hB⟩
  exact ⟨_, w', g1, hF⟩
theorem b125 : @g22_l125_b = @g22_l95_b := rfl
theorem b199 : @g22_l199_b = @g22_l95_b := rfl
theorem b139 : @g22_l139_b = @g22_l112_b := rfl
theorem b213 : @g22_l213_b = @g22_l112_b := rfl

theorem img_node0 {w : World} {D : Nat → Prop} {b : Nat} {m : IM} (h : Img w D b m) {n : Int} (hn : n < 0 ∨ (m.ns.length : Int) ≤ n) : ∃ w', callF Try.prog 16 #[.pointer (some ⟨b, 0, none⟩), .int .i64 n] w = some (.tuple #[.bool false, .int .i64 0, .int .u64 0], w') ∧ Fr [] w w' := by
  obtain ⟨c, nq, pq, es, h, hv⟩ := h
  obtain ⟨w', e, f⟩ := node16 h n
  rw [dif_neg (by omega)] at e
  exact ⟨w', e, f⟩
theorem img_nodeK {w : World} {D : Nat → Prop} {b : Nat} {m : IM} (h : Img w D b m) {k : Nat} (hk : k < m.ns.length) : ∃ w', callF Try.prog 16 #[.pointer (some ⟨b, 0, none⟩), .int .i64 (k : Int)] w = some (.tuple #[.bool m.ns[k].al, .int .i64 m.ns[k].cm, .int .u64 m.ns[k].bk], w') ∧ Fr [] w w' := by
  obtain ⟨c, nq, pq, es, h, hv⟩ := h
  obtain ⟨w', e, f⟩ := node16 h (k : Int)
  rw [dif_pos ⟨by omega, by omega⟩] at e
  exact ⟨w', e, f⟩
theorem img_part0 {w : World} {D : Nat → Prop} {b : Nat} {m : IM} (h : Img w D b m) {k : Int} (hk : k < 0 ∨ (m.vs.length : Int) ≤ k) :
    ∃ w', callF Try.prog 15 #[.pointer (some ⟨b, 0, none⟩), .int .i64 k] w = some (.tuple #[pv0.arg nl nl nl, .bool false], w') ∧ Fr [] w w' := by
  obtain ⟨c, nq, pq, es, h, hv⟩ := h
  have : m.vs.length = es.length := by rw [← hv]; simp
  obtain ⟨w', e, f⟩ := part15_no h (k := k) (by omega)
  exact ⟨w', e, f⟩
end Go.Proofs.Ytjcenfgmpbeldaa

namespace Go.Proofs.Ytjcenfgmpbeldaa
open Go Go.Ev
set_option maxRecDepth 100000
set_option linter.unusedVariables false
set_option linter.unusedSimpArgs false

theorem minus_succ {k : Nat} (h : (k : Int) < 1000000000) : IntKind.i64.wrap ((k : Int) - 1 + 1) = ((k + 1 : Nat) : Int) - 1 := by
  rw [wrap_i64 (by omega) (by omega)]; omega

theorem one_get {w : World} {e : TypeId} {q : Sh} {α : Type} {f : α → Value} {l : List α} (h : Own w e 1 q (l.map f)) {k : Nat} (hk : k < l.length) : ∃ a, idxA q.1 q.2.1 1 (k : Int) = some a ∧ w.cell? a = some (f l[k]) := by
  obtain ⟨a, i, c⟩ := h.slC.get (i := k) (by simpa using hk)
  exact ⟨a, i, by rw [c]; simp⟩

/-- an image is the document's -/
theorem same22 {w : World} {D E : Nat → Prop} {b p : Nat} {m : IM} (h : Img w D b m) (hR : Ref w E p m) (hnx : 0 ≤ m.next ∧ m.next ≤ 1001) (hnl : m.ns.length ≤ 1000) (hvl : m.vs.length ≤ 1000) (hlen : ∀ v ∈ m.vs, v.isr.length ≤ 1000000000 ∧ v.rep.length ≤ 1000000000 ∧ v.tgt.length ≤ 1000000000) :
    ∃ w', callF Try.prog 22 #[.pointer (some ⟨b, 0, none⟩), .pointer (some ⟨p, 0, none⟩)] w = some (.bool true, w') ∧ Fr [] w w' := by
  obtain ⟨qa, qc, qb, qp, es, R⟩ := hR
  obtain ⟨c, nq, pq, fs, h0, hv0⟩ := h
  have hI : Img w D b m := ⟨c, nq, pq, fs, h0, hv0⟩
  have hfl : fs.length = m.vs.length := by rw [← hv0]; simp
  have hel : es.length = m.vs.length := by rw [← R.vs]; simp
  obtain ⟨w1, e1, f1⟩ := counts23 h0
  obtain ⟨w2, e2, f2⟩ := pids20 (h0.fr f1 (by simp)) hnx
  have F2 : Fr [] w w2 := (Fr.mono (Fr.app f1 f2) (by have z0_ := Fr.size f1; have z1_ := Fr.size f2; intro y_ hy_ hl_; grind [blkOf]))
  have R2 := R.fr F2 (by simp)
  have I2 := hI.fr F2 (by simp)
  have c0 : w2.cell? ⟨p, 0, none⟩ = some (.slice qa.1 qa.2.1 qa.2.2) := R2.blk.cell 0
  have c3 : w2.cell? ⟨p, 3, none⟩ = some (.slice qp.1 qp.2.1 qp.2.2) := R2.blk.cell 3
  have c4 : w2.cell? ⟨p, 4, none⟩ = some (.int .u64 m.next) := R2.blk.cell 4
  have c5 : w2.cell? ⟨p, 5, none⟩ = some (.int .i64 m.count) := R2.blk.cell 5
  have hal := R.oa.len
  have hcl := R.oc.len
  have hbl := R.ob.len
  have hpl := R.op.len
  simp only [List.length_map, Nat.mul_one] at hal hcl hbl
  rw [ptCs_len] at hpl
  have k0 : ((m.ns.length : Int) != (qa.2.1 : Int)) = false := by simp; omega
  have k1 : ((fs.length : Int) != (qp.2.1 : Int)) = false := by simp; omega
  have nn : ∀ n : Int, (n != n) = false := fun n => by simp
  have hwu : IntKind.u64.wrap (1001 - m.next) = 1001 - m.next := wrap_u64 (by omega) (by omega)
  -- the nodes
  obtain ⟨t, w3, g3, rfl, F3⟩ := loopS_countX 0 (b := g22_l27_b (m.ns.length : Int) (some ⟨b, 0, none⟩) (some ⟨p, 0, none⟩) (fs.length : Int)) (n := m.ns.length + 2)
    (I := fun k s x => s = (false, (k : Int) - 1) ∧ Fr [] w2 x)
    (fun k s x hk ⟨hs, hF⟩ => by
      subst hs
      have kw := minus_succ (k := k) (by omega)
      have kle : decide (((k : Int) - 1) ≤ (m.ns.length : Int)) = true := by simp; omega
      by_cases hz : k = 0 ∨ k = m.ns.length + 1
      · obtain ⟨x1, ex, fx⟩ := img_node0 (I2.fr hF (by simp)) (n := (k : Int) - 1) (by omega)
        refine ⟨_, x1, ?_, rfl, (Fr.mono (Fr.app hF fx) (by have z0_ := Fr.size hF; have z1_ := Fr.size fx; intro y_ hy_ hl_; grind [blkOf]))⟩
        unfold g22_l27_b
        have n00 : ((0 : Int) != 0) = false := rfl
        by_cases hlt : (k : Int) - 1 < 0
        · have k2 : decide ((k : Int) - 1 < 0) = true := by simp only [hlt, decide_true]
          simp only [kle, ex, k2, n00, kw, obs, asP_pointer, asB_bool, asI_int, asS_string, asSl_slice, asM_map, asTup0, asTup1, asTup2, asTup3, asTup4, asTup5, asTup6, asTup7, asTup8, asTup9, asAgg2, asAgg3, asAgg4, asAgg5, asAgg6, asAgg7, asAgg8, asAgg9, asAgg12, getD0, getD1, getD2, getD3, getD4, getD5, getD6, getD7, getD8, getD9, getD10, getD11, getD12, getD13, getD14, getD15, getD16, getD17, getD18, getD19, Bool.not_true, Bool.not_false, Bool.false_eq_true, Bool.true_eq_false, ↓reduceIte, decide_true, decide_false, Option.isNone_some, Option.isNone_none, Option.isSome_some, Option.isSome_none, beq_self_eq_true, bne_self_eq_false, Bool.and_true, Bool.true_and, Bool.and_false, Bool.false_and, not_true_eq_false, not_false_eq_true]
        · have k2 : decide ((k : Int) - 1 < 0) = false := by simp only [hlt, decide_false]
          have k3 : ((k : Int) - 1 == (m.ns.length : Int)) = true := by simp; omega
          simp only [kle, ex, k2, k3, n00, kw, obs, asP_pointer, asB_bool, asI_int, asS_string, asSl_slice, asM_map, asTup0, asTup1, asTup2, asTup3, asTup4, asTup5, asTup6, asTup7, asTup8, asTup9, asAgg2, asAgg3, asAgg4, asAgg5, asAgg6, asAgg7, asAgg8, asAgg9, asAgg12, getD0, getD1, getD2, getD3, getD4, getD5, getD6, getD7, getD8, getD9, getD10, getD11, getD12, getD13, getD14, getD15, getD16, getD17, getD18, getD19, Bool.not_true, Bool.not_false, Bool.false_eq_true, Bool.true_eq_false, ↓reduceIte, decide_true, decide_false, Option.isNone_some, Option.isNone_none, Option.isSome_some, Option.isSome_none, beq_self_eq_true, bne_self_eq_false, Bool.and_true, Bool.true_and, Bool.and_false, Bool.false_and, not_true_eq_false, not_false_eq_true]
      · obtain ⟨j, rfl⟩ : ∃ j, k = j + 1 := ⟨k - 1, by omega⟩
        have hj : j < m.ns.length := by omega
        have ej : (((j + 1 : Nat) : Int)) - 1 = (j : Int) := by omega
        rw [ej] at kw kle ⊢
        obtain ⟨x1, ex, fx⟩ := img_nodeK (I2.fr hF (by simp)) hj
        have F1 : Fr [] w2 x1 := (Fr.mono (Fr.app hF fx) (by have z0_ := Fr.size hF; have z1_ := Fr.size fx; intro y_ hy_ hl_; grind [blkOf]))
        have Rx := R2.fr F1 (by simp)
        have d0 : x1.cell? ⟨p, 0, none⟩ = some (.slice qa.1 qa.2.1 qa.2.2) := Rx.blk.cell 0
        have d1 : x1.cell? ⟨p, 1, none⟩ = some (.slice qc.1 qc.2.1 qc.2.2) := Rx.blk.cell 1
        have d2 : x1.cell? ⟨p, 2, none⟩ = some (.slice qb.1 qb.2.1 qb.2.2) := Rx.blk.cell 2
        obtain ⟨a0, i0, r0⟩ := one_get Rx.oa hj
        obtain ⟨a1, i1, r1⟩ := one_get Rx.oc hj
        obtain ⟨a2, i2, r2⟩ := one_get Rx.ob hj
        have k2 : decide ((j : Int) < 0) = false := by simp
        have k3 : ((j : Int) == (m.ns.length : Int)) = false := by simp; omega
        have kb : ∀ b : Bool, (b == b) = true := fun b => by simp
        refine ⟨_, x1, ?_, rfl, F1⟩
        unfold g22_l27_b
        simp only [kle, ex, k2, k3, d0, i0, r0, kb, addr_add, Nat.zero_add, d1, i1, r1, nn, d2, i2, r2, kw, obs, asP_pointer, asB_bool, asI_int, asS_string, asSl_slice, asM_map, asTup0, asTup1, asTup2, asTup3, asTup4, asTup5, asTup6, asTup7, asTup8, asTup9, asAgg2, asAgg3, asAgg4, asAgg5, asAgg6, asAgg7, asAgg8, asAgg9, asAgg12, getD0, getD1, getD2, getD3, getD4, getD5, getD6, getD7, getD8, getD9, getD10, getD11, getD12, getD13, getD14, getD15, getD16, getD17, getD18, getD19, Bool.not_true, Bool.not_false, Bool.false_eq_true, Bool.true_eq_false, ↓reduceIte, decide_true, decide_false, Option.isNone_some, Option.isNone_none, Option.isSome_some, Option.isSome_none, beq_self_eq_true, bne_self_eq_false, Bool.and_true, Bool.true_and, Bool.and_false, Bool.false_and, not_true_eq_false, not_false_eq_true])
    (fun s x ⟨hs, _⟩ => by
      subst hs
      unfold g22_l27_b
      have kle : decide ((((m.ns.length + 2 : Nat) : Int)) - 1 ≤ (m.ns.length : Int)) = false := by simp; omega
      simp only [kle, Bool.false_eq_true, if_false]) (k := 0) (s := (false, -1)) (w := w2) (Nat.zero_le _) ⟨rfl, Fr.refl _ _⟩
  have I3 := I2.fr F3 (by simp)
  have R3 := R2.fr F3 (by simp)
  -- the partitions
  obtain ⟨t, w4, g4, rfl, F4⟩ := loopS_countX 2 (b := g22_l58_b (fs.length : Int) (some ⟨b, 0, none⟩) (some ⟨p, 0, none⟩)) (n := m.vs.length + 2)
    (I := fun k s x => s = (false, (k : Int) - 1) ∧ Fr [] w3 x)
    (fun k s x hk ⟨hs, hF⟩ => by
      subst hs
      have kw := minus_succ (k := k) (by omega)
      have kle : decide (((k : Int) - 1) ≤ (fs.length : Int)) = true := by simp; omega
      have ff : (false == false) = true := rfl
      have tt : (true == true) = true := rfl
      by_cases hz : k = 0 ∨ k = m.vs.length + 1
      · obtain ⟨x1, ex, fx⟩ := img_part0 (I3.fr hF (by simp)) (k := (k : Int) - 1) (by omega)
        obtain ⟨x2, s2, b2, f2, l2⟩ := newP x1 pv0 nl nl nl
        have fd := Fr.drew [] x2
        have Fx : Fr [] x x2.drew := (Fr.mono (Fr.app (Fr.app fx f2) fd) (by have z0_ := Fr.size fx; have z1_ := Fr.size f2; have z2_ := Fr.size fd; intro y_ hy_ hl_; grind [blkOf]))
        have bd := b2.fr fd (by simp)
        have d3 : x2.drew.cell? ⟨x1.heap.size, 3, none⟩ = some (.slice none 0 0) := bd.cell 3
        have d4 : x2.drew.cell? ⟨x1.heap.size, 4, none⟩ = some (.slice none 0 0) := bd.cell 4
        have z95 : ∀ r61 s59, loopS (g22_l95_b (none, 0, 0) r61 (some ⟨b, 0, none⟩) (some ⟨p, 0, none⟩) s59 (fs.length : Int)) 0 x2.drew = some (.exit 4, 0, x2.drew) := fun r61 s59 => loopS_out (by simp) (by unfold g22_l95_b; rfl)
        have z112 : ∀ r61 s59, loopS (g22_l112_b (none, 0, 0) r61 (some ⟨b, 0, none⟩) (some ⟨p, 0, none⟩) s59 (fs.length : Int)) 0 x2.drew = some (.exit 6, 0, x2.drew) := fun r61 s59 => loopS_out (by simp) (by unfold g22_l112_b; rfl)
        simp only [PV.arg, pv0, nl] at ex
        simp only [pv0, nl] at s2
        refine ⟨_, x2.drew, ?_, rfl, (Fr.mono (Fr.app hF Fx) (by have z0_ := Fr.size hF; have z1_ := Fr.size Fx; intro y_ hy_ hl_; grind [blkOf]))⟩
        unfold g22_l58_b
        by_cases hlt : (k : Int) - 1 < 0
        · have k2 : decide ((k : Int) - 1 ≥ 0) = false := by simp; omega
          have z199 := z95
          rw [← b199] at z199
          have z213 := z112
          rw [← b213] at z213
          simp only [kle, ex, s2, k2, ff, addr_add, Nat.zero_add, d3, obs, asP_pointer, asB_bool, asI_int, asS_string, asSl_slice, asM_map, asTup0, asTup1, asTup2, asTup3, asTup4, asTup5, asTup6, asTup7, asTup8, asTup9, asAgg2, asAgg3, asAgg4, asAgg5, asAgg6, asAgg7, asAgg8, asAgg9, asAgg12, getD0, getD1, getD2, getD3, getD4, getD5, getD6, getD7, getD8, getD9, getD10, getD11, getD12, getD13, getD14, getD15, getD16, getD17, getD18, getD19, Bool.not_true, Bool.not_false, Bool.false_eq_true, Bool.true_eq_false, ↓reduceIte, decide_true, decide_false, Option.isNone_some, Option.isNone_none, Option.isSome_some, Option.isSome_none, beq_self_eq_true, bne_self_eq_false, Bool.and_true, Bool.true_and, Bool.and_false, Bool.false_and, not_true_eq_false, not_false_eq_true]
          rw [g22_l199_x4_of (z199 _ _)]
          unfold g22_l199_x4
          simp only [addr_add, Nat.zero_add, d4, obs, asP_pointer, asB_bool, asI_int, asS_string, asSl_slice, asM_map, asTup0, asTup1, asTup2, asTup3, asTup4, asTup5, asTup6, asTup7, asTup8, asTup9, asAgg2, asAgg3, asAgg4, asAgg5, asAgg6, asAgg7, asAgg8, asAgg9, asAgg12, getD0, getD1, getD2, getD3, getD4, getD5, getD6, getD7, getD8, getD9, getD10, getD11, getD12, getD13, getD14, getD15, getD16, getD17, getD18, getD19, Bool.not_true, Bool.not_false, Bool.false_eq_true, Bool.true_eq_false, ↓reduceIte, decide_true, decide_false, Option.isNone_some, Option.isNone_none, Option.isSome_some, Option.isSome_none, beq_self_eq_true, bne_self_eq_false, Bool.and_true, Bool.true_and, Bool.and_false, Bool.false_and, not_true_eq_false, not_false_eq_true]
          rw [g22_l213_x6_of (z213 _ _)]
          unfold g22_l213_x6
          simp only [kw, obs, asP_pointer, asB_bool, asI_int, asS_string, asSl_slice, asM_map, asTup0, asTup1, asTup2, asTup3, asTup4, asTup5, asTup6, asTup7, asTup8, asTup9, asAgg2, asAgg3, asAgg4, asAgg5, asAgg6, asAgg7, asAgg8, asAgg9, asAgg12, getD0, getD1, getD2, getD3, getD4, getD5, getD6, getD7, getD8, getD9, getD10, getD11, getD12, getD13, getD14, getD15, getD16, getD17, getD18, getD19, Bool.not_true, Bool.not_false, Bool.false_eq_true, Bool.true_eq_false, ↓reduceIte, decide_true, decide_false, Option.isNone_some, Option.isNone_none, Option.isSome_some, Option.isSome_none, beq_self_eq_true, bne_self_eq_false, Bool.and_true, Bool.true_and, Bool.and_false, Bool.false_and, not_true_eq_false, not_false_eq_true]
        · have k2 : decide ((k : Int) - 1 ≥ 0) = true := by simp; omega
          have k3 : decide ((k : Int) - 1 < (fs.length : Int)) = false := by simp; omega
          have z125 := z95
          rw [← b125] at z125
          have z139 := z112
          rw [← b139] at z139
          simp only [kle, ex, s2, k2, k3, ff, addr_add, Nat.zero_add, d3, obs, asP_pointer, asB_bool, asI_int, asS_string, asSl_slice, asM_map, asTup0, asTup1, asTup2, asTup3, asTup4, asTup5, asTup6, asTup7, asTup8, asTup9, asAgg2, asAgg3, asAgg4, asAgg5, asAgg6, asAgg7, asAgg8, asAgg9, asAgg12, getD0, getD1, getD2, getD3, getD4, getD5, getD6, getD7, getD8, getD9, getD10, getD11, getD12, getD13, getD14, getD15, getD16, getD17, getD18, getD19, Bool.not_true, Bool.not_false, Bool.false_eq_true, Bool.true_eq_false, ↓reduceIte, decide_true, decide_false, Option.isNone_some, Option.isNone_none, Option.isSome_some, Option.isSome_none, beq_self_eq_true, bne_self_eq_false, Bool.and_true, Bool.true_and, Bool.and_false, Bool.false_and, not_true_eq_false, not_false_eq_true]
          rw [g22_l125_x4_of (z125 _ _)]
          unfold g22_l125_x4
          simp only [addr_add, Nat.zero_add, d4, obs, asP_pointer, asB_bool, asI_int, asS_string, asSl_slice, asM_map, asTup0, asTup1, asTup2, asTup3, asTup4, asTup5, asTup6, asTup7, asTup8, asTup9, asAgg2, asAgg3, asAgg4, asAgg5, asAgg6, asAgg7, asAgg8, asAgg9, asAgg12, getD0, getD1, getD2, getD3, getD4, getD5, getD6, getD7, getD8, getD9, getD10, getD11, getD12, getD13, getD14, getD15, getD16, getD17, getD18, getD19, Bool.not_true, Bool.not_false, Bool.false_eq_true, Bool.true_eq_false, ↓reduceIte, decide_true, decide_false, Option.isNone_some, Option.isNone_none, Option.isSome_some, Option.isSome_none, beq_self_eq_true, bne_self_eq_false, Bool.and_true, Bool.true_and, Bool.and_false, Bool.false_and, not_true_eq_false, not_false_eq_true]
          rw [g22_l139_x6_of (z139 _ _)]
          unfold g22_l139_x6
          simp only [kw, obs, asP_pointer, asB_bool, asI_int, asS_string, asSl_slice, asM_map, asTup0, asTup1, asTup2, asTup3, asTup4, asTup5, asTup6, asTup7, asTup8, asTup9, asAgg2, asAgg3, asAgg4, asAgg5, asAgg6, asAgg7, asAgg8, asAgg9, asAgg12, getD0, getD1, getD2, getD3, getD4, getD5, getD6, getD7, getD8, getD9, getD10, getD11, getD12, getD13, getD14, getD15, getD16, getD17, getD18, getD19, Bool.not_true, Bool.not_false, Bool.false_eq_true, Bool.true_eq_false, ↓reduceIte, decide_true, decide_false, Option.isNone_some, Option.isNone_none, Option.isSome_some, Option.isSome_none, beq_self_eq_true, bne_self_eq_false, Bool.and_true, Bool.true_and, Bool.and_false, Bool.false_and, not_true_eq_false, not_false_eq_true]
      · obtain ⟨j, rfl⟩ : ∃ j, k = j + 1 := ⟨k - 1, by omega⟩
        have hj : j < m.vs.length := by omega
        have hje : j < es.length := by omega
        have ej : (((j + 1 : Nat) : Int)) - 1 = (j : Int) := by omega
        rw [ej] at kw kle ⊢
        have Ix := I3.fr hF (by simp)
        obtain ⟨c', nq', pq', gs, hx0, hvx⟩ := Ix
        have hgl : j < gs.length := by rw [← hvx] at hj; simpa using hj
        have hgv : gs[j].v = m.vs[j] := by simp [← hvx]
        obtain ⟨qi, qr, qt, x1, ex, fx, oi, or_, ot, nfr, ap1, ap2⟩ := part15 hx0 hgl
        rw [hgv] at ex oi or_ ot
        obtain ⟨v, hv⟩ : ∃ v, m.vs[j] = v := ⟨_, rfl⟩
        have hlv := hlen m.vs[j] (List.getElem_mem hj)
        rw [hv] at ex oi or_ ot hlv
        obtain ⟨x2, s2, b2, f2, l2⟩ := newP x1 v qi qr qt
        have fd := Fr.drew [] x2
        have F12 : Fr [] x1 x2.drew := (Fr.mono (Fr.app f2 fd) (by have z0_ := Fr.size f2; have z1_ := Fr.size fd; intro y_ hy_ hl_; grind [blkOf]))
        have Fx : Fr [] x x2.drew := (Fr.mono (Fr.app fx F12) (by have z0_ := Fr.size fx; have z1_ := Fr.size F12; intro y_ hy_ hl_; grind [blkOf]))
        have bd := b2.fr fd (by simp)
        have ld := bd.ldN (n := 6) rfl
        simp only [PV.cs] at ld
        have FW : Fr [] w3 x2.drew := (Fr.mono (Fr.app hF Fx) (by have z0_ := Fr.size hF; have z1_ := Fr.size Fx; intro y_ hy_ hl_; grind [blkOf]))
        have Rx := R3.fr FW (by simp)
        have d3 : x2.drew.cell? ⟨p, 3, none⟩ = some (.slice qp.1 qp.2.1 qp.2.2) := Rx.blk.cell 3
        have hev : es[j].v = v := by rw [← hv]; simp [← R.vs]
        have oke := Rx.ok es[j] (List.getElem_mem hje)
        obtain ⟨g, off, qa1, i1, rr, _⟩ := row_at (f := PE.cs) pef_len (by decide) Rx.op (ptCs_len es) hje
        have ld2 : ldN x2.drew ⟨g, off + j * 6, none⟩ 0 6 = some (es[j].cs) := ldN_of_cells (cs := es[j].cs) (i := 0) fun i hi => by
          rw [addr_add, Nat.zero_add, rr i hi, List.getElem?_eq_getElem hi]
        simp only [PE.cs, PV.cs, hev] at ld2
        have oi2 := oi.fr F12 (by simp)
        have or2 := or_.fr F12 (by simp)
        have ot2 := ot.fr F12 (by simp)
        obtain ⟨x3, e43, f3⟩ := samePart43 (v := v) (qi := qi) (qr := qr) (qt := qt) (ri := es[j].qi) (rr := es[j].qr) (rt := es[j].qt) oi2.slI or2.slI ot2.slI (by rw [← hev]; exact oke.oi.slI) (by rw [← hev]; exact oke.or_.slI) (by rw [← hev]; exact oke.ot.slI) hlv
        have bd3 := bd.fr f3 (by simp)
        have d3' : x3.cell? ⟨x1.heap.size, 3, none⟩ = some (.slice qi.1 qi.2.1 qi.2.2) := bd3.cell 3
        have k2 : decide ((j : Int) ≥ 0) = true := by simp
        have k3 : decide ((j : Int) < (fs.length : Int)) = true := by simp; omega
        obtain ⟨t4, x4, h4, f4⟩ := fill95 (r61 := (.tuple #[.agg #[.int .i64 v.ld, .int .i64 v.ep, .int .i64 v.vr, .slice qi.1 qi.2.1 qi.2.2, .slice qr.1 qr.2.1 qr.2.2, .slice qt.1 qt.2.1 qt.2.2], .bool true], x1)) (u0 := some ⟨b, 0, none⟩) (u1 := some ⟨p, 0, none⟩) (s59 := (false, (j : Int))) (n4 := (fs.length : Int)) (oi2.fr f3 (by simp)) hlv.1 bd3 (cs := v.cs qi qr qt) rfl
        have bd4 := bd3.fr f4 (bd3.notin (oi2.fr f3 (by simp)) (by decide))
        have or4 := (or2.fr f3 (by simp)).fr f4 (fun y hy hm => (ap1 y hm).1 hy)
        have d4' : x4.cell? ⟨x1.heap.size, 4, none⟩ = some (.slice qr.1 qr.2.1 qr.2.2) := bd4.cell 4
        obtain ⟨t5, x5, h5, f5⟩ := fill112 (r61 := (.tuple #[.agg #[.int .i64 v.ld, .int .i64 v.ep, .int .i64 v.vr, .slice qi.1 qi.2.1 qi.2.2, .slice qr.1 qr.2.1 qr.2.2, .slice qt.1 qt.2.1 qt.2.2], .bool true], x1)) (u0 := some ⟨b, 0, none⟩) (u1 := some ⟨p, 0, none⟩) (s59 := (false, (j : Int))) (n4 := (fs.length : Int)) or4 hlv.2.1 bd4 (cs := v.cs qi qr qt) rfl
        have FW3 : Fr [] w3 x3 := (Fr.mono (Fr.app FW f3) (by have z0_ := Fr.size FW; have z1_ := Fr.size f3; intro y_ hy_ hl_; grind [blkOf]))
        simp only [PV.arg] at ex e43
        refine ⟨_, x5, ?_, rfl, ((FW3.app f4).app f5).mono (by
          intro y hy hlt
          simp at hy
          have hzx := hF.size
          rcases hy with hy | hy
          · have := nfr y (.inl hy); omega
          · have := nfr y (.inr (.inl hy)); omega)⟩
        unfold g22_l58_b
        simp only [kle, ex, s2, k2, k3, tt, ld, addr_add, Nat.zero_add, d3, i1, ld2, e43, d3', obs, asP_pointer, asB_bool, asI_int, asS_string, asSl_slice, asM_map, asTup0, asTup1, asTup2, asTup3, asTup4, asTup5, asTup6, asTup7, asTup8, asTup9, asAgg2, asAgg3, asAgg4, asAgg5, asAgg6, asAgg7, asAgg8, asAgg9, asAgg12, getD0, getD1, getD2, getD3, getD4, getD5, getD6, getD7, getD8, getD9, getD10, getD11, getD12, getD13, getD14, getD15, getD16, getD17, getD18, getD19, Bool.not_true, Bool.not_false, Bool.false_eq_true, Bool.true_eq_false, ↓reduceIte, decide_true, decide_false, Option.isNone_some, Option.isNone_none, Option.isSome_some, Option.isSome_none, beq_self_eq_true, bne_self_eq_false, Bool.and_true, Bool.true_and, Bool.and_false, Bool.false_and, not_true_eq_false, not_false_eq_true]
        rw [g22_l95_x4_of h4]
        unfold g22_l95_x4
        simp only [addr_add, Nat.zero_add, d4', obs, asP_pointer, asB_bool, asI_int, asS_string, asSl_slice, asM_map, asTup0, asTup1, asTup2, asTup3, asTup4, asTup5, asTup6, asTup7, asTup8, asTup9, asAgg2, asAgg3, asAgg4, asAgg5, asAgg6, asAgg7, asAgg8, asAgg9, asAgg12, getD0, getD1, getD2, getD3, getD4, getD5, getD6, getD7, getD8, getD9, getD10, getD11, getD12, getD13, getD14, getD15, getD16, getD17, getD18, getD19, Bool.not_true, Bool.not_false, Bool.false_eq_true, Bool.true_eq_false, ↓reduceIte, decide_true, decide_false, Option.isNone_some, Option.isNone_none, Option.isSome_some, Option.isSome_none, beq_self_eq_true, bne_self_eq_false, Bool.and_true, Bool.true_and, Bool.and_false, Bool.false_and, not_true_eq_false, not_false_eq_true]
        rw [g22_l112_x6_of h5]
        unfold g22_l112_x6
        simp only [kw, obs, asP_pointer, asB_bool, asI_int, asS_string, asSl_slice, asM_map, asTup0, asTup1, asTup2, asTup3, asTup4, asTup5, asTup6, asTup7, asTup8, asTup9, asAgg2, asAgg3, asAgg4, asAgg5, asAgg6, asAgg7, asAgg8, asAgg9, asAgg12, getD0, getD1, getD2, getD3, getD4, getD5, getD6, getD7, getD8, getD9, getD10, getD11, getD12, getD13, getD14, getD15, getD16, getD17, getD18, getD19, Bool.not_true, Bool.not_false, Bool.false_eq_true, Bool.true_eq_false, ↓reduceIte, decide_true, decide_false, Option.isNone_some, Option.isNone_none, Option.isSome_some, Option.isSome_none, beq_self_eq_true, bne_self_eq_false, Bool.and_true, Bool.true_and, Bool.and_false, Bool.false_and, not_true_eq_false, not_false_eq_true])
    (fun s x ⟨hs, _⟩ => by
      subst hs
      unfold g22_l58_b
      have kle : decide ((((m.vs.length + 2 : Nat) : Int)) - 1 ≤ (fs.length : Int)) = false := by simp; omega
      simp only [kle, Bool.false_eq_true, if_false]) (k := 0) (s := (false, -1)) (w := w3) (Nat.zero_le _) ⟨rfl, Fr.refl _ _⟩
  refine ⟨w4, g22_call ?_, (Fr.mono (Fr.app (Fr.app F2 F3) F4) (by have z0_ := Fr.size F2; have z1_ := Fr.size F3; have z2_ := Fr.size F4; intro y_ hy_ hl_; grind [blkOf]))⟩
  unfold g22
  simp only [e1, e2, c0, k0, addr_add, Nat.zero_add, c3, k1, c5, nn, c4, hwu, obs, asP_pointer, asB_bool, asI_int, asS_string, asSl_slice, asM_map, asTup0, asTup1, asTup2, asTup3, asTup4, asTup5, asTup6, asTup7, asTup8, asTup9, asAgg2, asAgg3, asAgg4, asAgg5, asAgg6, asAgg7, asAgg8, asAgg9, asAgg12, getD0, getD1, getD2, getD3, getD4, getD5, getD6, getD7, getD8, getD9, getD10, getD11, getD12, getD13, getD14, getD15, getD16, getD17, getD18, getD19, Bool.not_true, Bool.not_false, Bool.false_eq_true, Bool.true_eq_false, ↓reduceIte, decide_true, decide_false, Option.isNone_some, Option.isNone_none, Option.isSome_some, Option.isSome_none, beq_self_eq_true, bne_self_eq_false, Bool.and_true, Bool.true_and, Bool.and_false, Bool.false_and, not_true_eq_false, not_false_eq_true]
  rw [g22_l27_x0_of g3]
  unfold g22_l27_x0
  rw [g22_l58_x2_of g4, g22_l58_x2]
end Go.Proofs.Ytjcenfgmpbeldaa

namespace Go.Proofs.Ytjcenfgmpbeldaa
open Go Go.Ev
set_option maxRecDepth 100000
set_option linter.unusedVariables false
set_option linter.unusedSimpArgs false

theorem RefR.up {w : World} {E E' : Nat → Prop} {p : Nat} {qa qc qb qp : Sh} {es : List PE} {m : IM} (h : RefR w E p qa qc qb qp es m) (hE : ∀ y, E y → E' y) (hlt : ∀ y, E' y → y < w.heap.size) : RefR w E' p qa qc qb qp es m :=
  ⟨h.blk, h.oa, h.oc, h.ob, h.op, h.vs, fun e he => (h.ok e he).fr (Fr.refl [] _) (by simp) hE, hE _ h.pe, ⟨fun y hy => hE y (h.reg.1 y hy), fun y hy => hE y (h.reg.2.1 y hy), fun y hy => hE y (h.reg.2.2.1 y hy), fun y hy => hE y (h.reg.2.2.2 y hy)⟩, hlt⟩

theorem PeOk.up {w : World} {E E' : Nat → Prop} {e : PE} (h : PeOk w E e) (hE : ∀ y, E y → E' y) : PeOk w E' e := h.fr (Fr.refl [] _) (by simp) hE

theorem pecs_oc (e : PE) : ∀ u ∈ e.cs, u.oneCell' = true := pvcs_oc e.v e.qi e.qr e.qt

/-- one part more -/
theorem RefR.push {w : World} {E : Nat → Prop} {p : Nat} {qa qc qb qp : Sh} {es : List PE} {m : IM} (h : RefR w E p qa qc qb qp es m) (e : PE) (ok : PeOk w E e) (hl : es.length ≤ 1000) :
    ∃ qp' w1 w2, callB Try.prog .append #[77, 77] 77 #[false, false] #[.slice qp.1 qp.2.1 qp.2.2, .slice (some ⟨w.heap.size, 0, none⟩) 1 1] (w.alloc (.cells #[.int .i64 e.v.ld, .int .i64 e.v.ep, .int .i64 e.v.vr, .slice e.qi.1 e.qi.2.1 e.qi.2.2, .slice e.qr.1 e.qr.2.1 e.qr.2.2, .slice e.qt.1 e.qt.2.1 e.qt.2.2] 30)) = some (.slice qp'.1 qp'.2.1 qp'.2.2, w1) ∧
      st1 w1 ⟨p, 3, none⟩ (.slice qp'.1 qp'.2.1 qp'.2.2) = some w2 ∧ RefR w2 (fun y => E y ∨ w.heap.size ≤ y ∧ y < w2.heap.size) p qa qc qb qp' (es ++ [e]) { m with vs := m.vs ++ [e.v] } ∧ Fr (p :: blkOf qp) w w2 := by
  have hml : maxLen = 9223372036854775807 := by decide
  have hpl := h.op.len
  rw [ptCs_len] at hpl
  obtain ⟨qp', w1, e1, o1, f1, n1, l1⟩ := app_one t77 (w := w) h.op (ys := e.cs) rfl (pecs_oc e) (by omega) (by omega) 77 #[false, false]
  have hpn := h.blk.notin h.op (by decide)
  have b1 := h.blk.fr f1 hpn
  have s2 : st1 w1 ⟨p, 3, none⟩ (.slice qp'.1 qp'.2.1 qp'.2.2) = some (w1.setCell ⟨p, 3, none⟩ (.slice qp'.1 qp'.2.1 qp'.2.2)) := b1.st1 (by simp) rfl
  have b2 := b1.set 3 (.slice qp'.1 qp'.2.1 qp'.2.2)
  have f2 : Fr [p] w1 (w1.setCell ⟨p, 3, none⟩ (.slice qp'.1 qp'.2.1 qp'.2.2)) := Fr.setCell
  obtain ⟨w2, hw2⟩ : ∃ w2, w1.setCell ⟨p, 3, none⟩ (.slice qp'.1 qp'.2.1 qp'.2.2) = w2 := ⟨_, rfl⟩
  rw [hw2] at s2 b2 f2
  have F : Fr (p :: blkOf qp) w w2 := (f1.app f2).mono (by intro y hy _; simp at hy ⊢; rcases hy with hy | hy; exact .inr hy; exact .inl hy)
  have z1 := f1.size
  have z2 := F.size
  have apE : ∀ {t : TypeId} {q : Sh} {n : Nat} {xs : List Value}, Own w t n q xs → t ≠ 30 → t ≠ 89 → ∀ y ∈ blkOf q, y ∉ (p :: blkOf qp) := by
    intro t q n xs ho h1 h2 y hy hm
    rcases List.mem_cons.mp hm with rfl | hm
    · exact h.blk.notin ho h2.symm hy
    · exact ho.apart h.op h1 y hy hm
  have peE : ∀ {e : PE}, PeOk w E e → PeOk w2 (fun y => E y ∨ w.heap.size ≤ y ∧ y < w2.heap.size) e := by
    intro e ok
    refine ok.fr F (fun y hy => ⟨fun hm => apE ok.oi (by decide) (by decide) y hm hy, fun hm => apE ok.or_ (by decide) (by decide) y hm hy, fun hm => apE ok.ot (by decide) (by decide) y hm hy⟩) (fun y hy => .inl hy)
  have hp2 : p ∉ blkOf qp' := fun hm => by
    rcases n1 p hm with hh | hh
    · exact hpn hh
    · have := h.lt p h.pe; omega
  refine ⟨qp', w1, w2, e1, s2, ⟨b2, h.oa.fr F (apE h.oa (by decide) (by decide)), h.oc.fr F (apE h.oc (by decide) (by decide)), h.ob.fr F (apE h.ob (by decide) (by decide)), ?_, by rw [List.map_append, h.vs]; rfl, fun e' he' => ?_, .inl h.pe, ⟨fun y hy => .inl (h.reg.1 y hy), fun y hy => .inl (h.reg.2.1 y hy), fun y hy => .inl (h.reg.2.2.1 y hy), fun y hy => ?_⟩, fun y hy => ?_⟩, F⟩
  · have : ptCs (es ++ [e]) = ptCs es ++ e.cs := by unfold ptCs; simp
    rw [this]
    exact o1.fr f2 (fun y hy hm => by simp at hm; subst hm; exact hp2 hy)
  · rcases List.mem_append.mp he' with he' | he'
    · exact peE (h.ok e' he')
    · simp at he'; subst he'; exact peE ok
  · rcases n1 y hy with hh | hh
    · exact .inl (h.reg.2.2.2 y hh)
    · exact .inr ⟨hh, by have := o1.lt y hy; have := f2.size; omega⟩
  · rcases hy with hy | hy
    · have := h.lt y hy; omega
    · exact hy.2

/-! ## the document's beginning -/
def refOn (n c k N : Nat) : List Int := (List.range N).flatMap fun a => (List.range c).flatMap fun i => if (k + i) % n = a then [(a : Int)] else []
def leB : Int → List Int → Bool
  | _, [] => true
  | x, y :: r => decide (x ≤ y) && leB y r
theorem leB_spec : ∀ {l : List Int} {x : Int}, leB x l = true → (∀ y ∈ l, x ≤ y) ∧ l.Pairwise (· ≤ ·)
  | [], _, _ => ⟨by simp, List.Pairwise.nil⟩
  | z :: l, x, h => by
    unfold leB at h
    simp only [Bool.and_eq_true, decide_eq_true_eq] at h
    obtain ⟨h1, h2⟩ := leB_spec h.2
    refine ⟨fun y hy => ?_, ?_⟩
    · rcases List.mem_cons.mp hy with rfl | hy
      · exact h.1
      · have := h1 y hy; omega
    · rw [List.pairwise_cons]; exact ⟨h1, h2⟩
theorem refOn_eq {n c k : Nat} (hn : 1 ≤ n ∧ n ≤ 5) (hc : c ≤ n) (hk : k < 6) : refOn n c k n = isort (onR n c k) := by
  have key : ((List.range 6).all fun n => (List.range 6).all fun c => (List.range 6).all fun k => !(decide (1 ≤ n) && decide (c ≤ n)) || (leB (-1) (refOn n c k n) && (refOn n c k n).isPerm (onR n c k))) = true := by decide +kernel
  have k1 := List.all_eq_true.mp (List.all_eq_true.mp (List.all_eq_true.mp key n (List.mem_range.mpr (by omega))) c (List.mem_range.mpr (by omega))) k (List.mem_range.mpr hk)
  have h3 : decide (1 ≤ n) = true := by simp; omega
  have h4 : decide (c ≤ n) = true := by simp; omega
  rw [h3, h4] at k1
  simp only [Bool.and_true, Bool.not_true, Bool.false_or, Bool.and_eq_true] at k1
  obtain ⟨h1, h2⟩ := k1
  exact isort_of (List.isPerm_iff.mp h2) (leB_spec h1).2
theorem flat_len {P : Nat → Prop} [DecidablePred P] (x : Int) : ∀ i, ((List.range i).flatMap fun i => if P i then [x] else []).length ≤ i
  | 0 => by simp
  | i + 1 => by
    have := flat_len (P := P) x i
    rw [List.range_succ, List.flatMap_append, List.length_append]
    simp only [List.flatMap_cons, List.flatMap_nil, List.append_nil]
    have h2 : (if P i then [x] else []).length ≤ 1 := by split <;> simp
    omega
theorem refOn_len (n c k : Nat) : ∀ N, (refOn n c k N).length ≤ c * N
  | 0 => by simp [refOn]
  | N + 1 => by
    have h1 := refOn_len n c k N
    have h2 := flat_len (P := fun i => (k + i) % n = N) (N : Int) c
    have : refOn n c k (N + 1) = refOn n c k N ++ (List.range c).flatMap fun i => if (k + i) % n = N then [(N : Int)] else [] := by
      unfold refOn
      rw [List.range_succ, List.flatMap_append]; simp
    rw [this, List.length_append, Nat.mul_succ]
    omega

theorem ref_on {x w23 : World} {n c k : Nat} (hn : 1 ≤ n ∧ n ≤ 5) (hc : c ≤ 5) (hk : k < 6) (u1 : Int) :
    ∃ v w', loopS (g21_l30_b (n : Int) u1 (c : Int) w23 (k : Int)) ((none, 0, 0), 0) x = some (.exit 2, (v, (n : Int)), w') ∧ Own w' 3 1 v (intsV' (refOn n c k n)) ∧ Fr [] x w' ∧ (∀ y ∈ blkOf v, x.heap.size ≤ y) := by
  have hml : maxLen = 9223372036854775807 := by decide
  obtain ⟨t, w', g1, v, rfl, o, hF, hv⟩ := loopS_countX 2 (b := g21_l30_b (n : Int) u1 (c : Int) w23 (k : Int)) (n := n)
    (I := fun a s y => ∃ v, s = (v, (a : Int)) ∧ Own y 3 1 v (intsV' (refOn n c k a)) ∧ Fr [] x y ∧ (∀ z ∈ blkOf v, x.heap.size ≤ z))
    (fun a s y ha ⟨v, hs, o, hF, hv⟩ => by
      subst hs
      have hrl := refOn_len n c k a
      have hca : c * a ≤ 25 := Nat.mul_le_mul (show c ≤ 5 by omega) (show a ≤ 5 by omega)
      have hrc : (refOn n c k a).length ≤ 25 := Nat.le_trans hrl hca
      obtain ⟨t2, y2, g2, v2, rfl, o2, F2, hv2⟩ := loopS_countX 4 (b := g21_l33_b (c : Int) (n : Int) (k : Int) (v, (a : Int)) u1 w23) (n := c)
        (I := fun i s z => ∃ v, s = (v, (i : Int)) ∧ Own z 3 1 v (intsV' (refOn n c k a ++ (List.range i).flatMap fun i => if (k + i) % n = a then [(a : Int)] else [])) ∧ Fr [] x z ∧ (∀ u ∈ blkOf v, x.heap.size ≤ u))
        (fun i s z hi ⟨v, hs, o, hF, hv⟩ => by
          subst hs
          have hfl := flat_len (P := fun i => (k + i) % n = a) (a : Int) i
          have k0 : decide ((i : Int) < (c : Int)) = true := by simp; omega
          have kn : ¬ ((n : Int) = 0) := by omega
          have kw := wrap_succ (n := i) (by omega)
          have hw : IntKind.i64.wrap ((k : Int) + (i : Int)) = ((k + i : Nat) : Int) := by rw [wrap_i64 (by omega) (by omega)]; omega
          have hm : Int.tmod ((k + i : Nat) : Int) (n : Int) = (((k + i) % n : Nat) : Int) := by rw [Int.tmod_eq_emod_of_nonneg (by omega)]; simp
          by_cases he : (k + i) % n = a
          · have k1 : ((((k + i) % n : Nat) : Int) == (a : Int)) = true := by rw [he]; simp
            have hql := o.len
            simp only [intsV', List.length_map, Nat.mul_one, List.length_append] at hql
            obtain ⟨v1, z1, e1, o1, f1, n1, l1⟩ := app_one t28 (w := z) o (ys := [.int .i64 (a : Int)]) rfl (by intro u hu; simp at hu; subst hu; rfl) (by omega) (by omega) 28 #[false, false]
            have zz := hF.size
            refine ⟨_, z1, ?_, v1, rfl, ?_, (hF.app f1).mono (by intro u hu hlt; simp at hu; have := hv u hu; omega), fun u hu => ?_⟩
            · unfold g21_l33_b
              simp only [k0, kn, hw, hm, k1, e1, kw, obs, asP_pointer, asB_bool, asI_int, asS_string, asSl_slice, asM_map, asTup0, asTup1, asTup2, asTup3, asTup4, asTup5, asTup6, asTup7, asTup8, asTup9, asAgg2, asAgg3, asAgg4, asAgg5, asAgg6, asAgg7, asAgg8, asAgg9, asAgg12, getD0, getD1, getD2, getD3, getD4, getD5, getD6, getD7, getD8, getD9, getD10, getD11, getD12, getD13, getD14, getD15, getD16, getD17, getD18, getD19, Bool.not_true, Bool.not_false, Bool.false_eq_true, Bool.true_eq_false, ↓reduceIte, decide_true, decide_false, Option.isNone_some, Option.isNone_none, Option.isSome_some, Option.isSome_none, beq_self_eq_true, bne_self_eq_false, Bool.and_true, Bool.true_and, Bool.and_false, Bool.false_and, not_true_eq_false, not_false_eq_true]
            · rw [List.range_succ, List.flatMap_append, ← List.append_assoc]
              simpa [intsV', he] using o1
            · rcases n1 u hu with hh | hh
              · exact hv u hh
              · omega
          · have k1 : ((((k + i) % n : Nat) : Int) == (a : Int)) = false := beq_eq_false_iff_ne.mpr (fun h => he (Int.ofNat_inj.mp h))
            refine ⟨_, z, ?_, v, rfl, ?_, hF, hv⟩
            · unfold g21_l33_b
              simp only [k0, kn, hw, hm, k1, kw, obs, asP_pointer, asB_bool, asI_int, asS_string, asSl_slice, asM_map, asTup0, asTup1, asTup2, asTup3, asTup4, asTup5, asTup6, asTup7, asTup8, asTup9, asAgg2, asAgg3, asAgg4, asAgg5, asAgg6, asAgg7, asAgg8, asAgg9, asAgg12, getD0, getD1, getD2, getD3, getD4, getD5, getD6, getD7, getD8, getD9, getD10, getD11, getD12, getD13, getD14, getD15, getD16, getD17, getD18, getD19, Bool.not_true, Bool.not_false, Bool.false_eq_true, Bool.true_eq_false, ↓reduceIte, decide_true, decide_false, Option.isNone_some, Option.isNone_none, Option.isSome_some, Option.isSome_none, beq_self_eq_true, bne_self_eq_false, Bool.and_true, Bool.true_and, Bool.and_false, Bool.false_and, not_true_eq_false, not_false_eq_true]
            · rw [List.range_succ, List.flatMap_append, ← List.append_assoc]
              simpa [he] using o)
        (fun s z ⟨v, hs, _⟩ => by
          subst hs
          unfold g21_l33_b
          have k0 : decide ((c : Int) < (c : Int)) = false := by simp
          simp only [k0, Bool.false_eq_true, if_false]) (k := 0) (s := (v, 0)) (w := y) (Nat.zero_le _) ⟨v, rfl, by simpa using o, hF, hv⟩
      have hsucc : refOn n c k (a + 1) = refOn n c k a ++ (List.range c).flatMap fun i => if (k + i) % n = a then [(a : Int)] else [] := by
        unfold refOn
        rw [List.range_succ, List.flatMap_append]; simp
      have k0 : decide ((a : Int) < (n : Int)) = true := by simp; omega
      have kw := wrap_succ (n := a) (by omega)
      refine ⟨_, y2, ?_, v2, rfl, by rw [hsucc]; exact o2, F2, hv2⟩
      unfold g21_l30_b
      simp only [k0, if_true]
      rw [g21_l33_x4_of g2]
      unfold g21_l33_x4
      simp only [kw, obs, asP_pointer, asB_bool, asI_int, asS_string, asSl_slice, asM_map, asTup0, asTup1, asTup2, asTup3, asTup4, asTup5, asTup6, asTup7, asTup8, asTup9, asAgg2, asAgg3, asAgg4, asAgg5, asAgg6, asAgg7, asAgg8, asAgg9, asAgg12, getD0, getD1, getD2, getD3, getD4, getD5, getD6, getD7, getD8, getD9, getD10, getD11, getD12, getD13, getD14, getD15, getD16, getD17, getD18, getD19, Bool.not_true, Bool.not_false, Bool.false_eq_true, Bool.true_eq_false, ↓reduceIte, decide_true, decide_false, Option.isNone_some, Option.isNone_none, Option.isSome_some, Option.isSome_none, beq_self_eq_true, bne_self_eq_false, Bool.and_true, Bool.true_and, Bool.and_false, Bool.false_and, not_true_eq_false, not_false_eq_true])
    (fun s y ⟨v, hs, _⟩ => by
      subst hs
      unfold g21_l30_b
      have k0 : decide ((n : Int) < (n : Int)) = false := by simp
      simp only [k0, Bool.false_eq_true, if_false]) (k := 0) (s := ((none, 0, 0), 0)) (w := x) (Nat.zero_le _) ⟨(none, 0, 0), rfl, Own.nil _ _ _, Fr.refl _ _, by simp [blkOf]⟩
  exact ⟨v, w', g1, o, hF, hv⟩

theorem new21 (W : World) {n p c : Nat} (hn : 1 ≤ n ∧ n ≤ 5) (hp : 1 ≤ p ∧ p ≤ 6) (hc : 1 ≤ c ∧ c ≤ n) :
    ∃ b w', callF Try.prog 21 #[.int .i64 (n : Int), .int .i64 (p : Int), .int .i64 (c : Int)] W = some (.tuple #[.pointer (some ⟨b, 0, none⟩), .int .i64 0], w') ∧ Ref w' (fun y => W.heap.size ≤ y ∧ y < w'.heap.size) b ⟨List.replicate n nv0, newParts n c p, 1, 0⟩ ∧ Fr [] W w' := by
  have hml : maxLen = 9223372036854775807 := by decide
  -- from a world in which the three lists are
  have main : ∀ (x : World) (qa qc qb : Sh), Own x 4 1 qa (List.replicate n (.bool false)) → Own x 3 1 qc (List.replicate n (.int .i64 0)) → Own x 38 1 qb (List.replicate n (.int .u64 0)) → Fr [] W x → (∀ y ∈ blkOf qa, W.heap.size ≤ y) → (∀ y ∈ blkOf qc, W.heap.size ≤ y) → (∀ y ∈ blkOf qb, W.heap.size ≤ y) →
      ∃ w', g21_j13 (n : Int) (p : Int) (c : Int) W qa qc qb x = some (.tuple #[.pointer (some ⟨x.heap.size, 0, none⟩), .int .i64 0], w') ∧ Ref w' (fun y => W.heap.size ≤ y ∧ y < w'.heap.size) x.heap.size ⟨List.replicate n nv0, newParts n c p, 1, 0⟩ ∧ Fr [] W w' := by
    intro x qa qc qb oa oc ob hF ha hc' hb
    have fa : Fr [] x (x.alloc (.cells #[.slice qa.1 qa.2.1 qa.2.2, .slice qc.1 qc.2.1 qc.2.2, .slice qb.1 qb.2.1 qb.2.2, .slice none 0 0, .int .u64 1, .int .i64 0] 89)) := Fr.alloc _
    have ba : Blk (x.alloc (.cells #[.slice qa.1 qa.2.1 qa.2.2, .slice qc.1 qc.2.1 qc.2.2, .slice qb.1 qb.2.1 qb.2.2, .slice none 0 0, .int .u64 1, .int .i64 0] 89)) x.heap.size [.slice qa.1 qa.2.1 qa.2.2, .slice qc.1 qc.2.1 qc.2.2, .slice qb.1 qb.2.1 qb.2.2, .slice none 0 0, .int .u64 1, .int .i64 0] 89 := Blk.new x _ 89
    obtain ⟨x1, hx1⟩ : ∃ x1, x.alloc (.cells #[.slice qa.1 qa.2.1 qa.2.2, .slice qc.1 qc.2.1 qc.2.2, .slice qb.1 qb.2.1 qb.2.2, .slice none 0 0, .int .u64 1, .int .i64 0] 89) = x1 := ⟨_, rfl⟩
    rw [hx1] at fa ba
    have zx := hF.size
    have za := fa.size
    have lb := ba.lt
    have R0 : RefR x1 (fun y => W.heap.size ≤ y ∧ y < x1.heap.size) x.heap.size qa qc qb (none, 0, 0) [] ⟨List.replicate n nv0, newParts n c 0, 1, 0⟩ := by
      have oa1 := oa.fr fa (by simp)
      have oc1 := oc.fr fa (by simp)
      have ob1 := ob.fr fa (by simp)
      refine ⟨ba, by simpa [nv0] using oa1, by simpa [nv0] using oc1, by simpa [nv0] using ob1, Own.nil _ _ _, by simp [newParts], by simp, ⟨zx, lb⟩, ⟨fun y hy => ⟨ha y hy, oa1.lt y hy⟩, fun y hy => ⟨hc' y hy, oc1.lt y hy⟩, fun y hy => ⟨hb y hy, ob1.lt y hy⟩, by simp [blkOf]⟩, fun y hy => hy.2⟩
    obtain ⟨t, w', g1, rfl, qp, es, R, hF'⟩ := loopS_countX 0 (b := g21_l27_b (p : Int) (n : Int) (c : Int) x) (n := p)
      (I := fun k s y => s = (k : Int) ∧ ∃ qp es, RefR y (fun z => W.heap.size ≤ z ∧ z < y.heap.size) x.heap.size qa qc qb qp es ⟨List.replicate n nv0, newParts n c k, 1, 0⟩ ∧ Fr [] W y)
      (fun k s y hk ⟨hs, qp, es, R, hF⟩ => by
        subst hs
        obtain ⟨v, y1, g2, o2, F2, hv⟩ := ref_on (x := y) (w23 := x) hn (by omega) (k := k) (by omega) (p : Int) (c := c)
        rw [refOn_eq hn hc.2 (by omega)] at o2
        have zy := hF.size
        have z2 := F2.size
        have hel : es.length = k := by
          have := congrArg List.length R.vs
          simpa [newParts] using this
        have R1 := (R.fr F2 (by simp)).up (E' := fun z => W.heap.size ≤ z ∧ z < y1.heap.size) (fun z hz => ⟨hz.1, by omega⟩) (fun z hz => hz.2)
        have hil : (isort (onR n c k)).length ≤ 1000000000 := by rw [(isort_perm _).length_eq]; simp [onR]; omega
        have hreg : ∀ z ∈ blkOf v, W.heap.size ≤ z ∧ z < y1.heap.size := fun z hz => ⟨by have := hv z hz; omega, o2.lt z hz⟩
        obtain ⟨qp', y2, y3, e2, s3, R3, f3⟩ := R1.push ⟨newPart n c k, v, v, nl⟩ ⟨o2, o2, Own.nil _ _ _, ⟨hreg, hreg, by simp [blkOf, nl]⟩, ⟨hil, hil, by simp [newPart]⟩⟩ (by omega)
        simp only [newPart, nl] at e2
        have c3 : y1.cell? ⟨x.heap.size, 3, none⟩ = some (.slice qp.1 qp.2.1 qp.2.2) := R1.blk.cell 3
        have k0 : decide ((k : Int) < (p : Int)) = true := by simp; omega
        have kw := wrap_succ (n := k) (by omega)
        have z3 := f3.size
        refine ⟨_, y3, ?_, rfl, qp', es ++ [⟨newPart n c k, v, v, nl⟩], ?_, ?_⟩
        · unfold g21_l27_b
          simp only [k0, if_true]
          rw [g21_l30_x2_of g2]
          unfold g21_l30_x2
          simp only [addr_add, Nat.zero_add, c3, e2, s3, kw, obs, asP_pointer, asB_bool, asI_int, asS_string, asSl_slice, asM_map, asTup0, asTup1, asTup2, asTup3, asTup4, asTup5, asTup6, asTup7, asTup8, asTup9, asAgg2, asAgg3, asAgg4, asAgg5, asAgg6, asAgg7, asAgg8, asAgg9, asAgg12, getD0, getD1, getD2, getD3, getD4, getD5, getD6, getD7, getD8, getD9, getD10, getD11, getD12, getD13, getD14, getD15, getD16, getD17, getD18, getD19, Bool.not_true, Bool.not_false, Bool.false_eq_true, Bool.true_eq_false, ↓reduceIte, decide_true, decide_false, Option.isNone_some, Option.isNone_none, Option.isSome_some, Option.isSome_none, beq_self_eq_true, bne_self_eq_false, Bool.and_true, Bool.true_and, Bool.and_false, Bool.false_and, not_true_eq_false, not_false_eq_true]
        · have hnp : newParts n c (k + 1) = newParts n c k ++ [newPart n c k] := by unfold newParts; rw [List.range_succ, List.map_append]; rfl
          rw [hnp]
          exact R3.up (fun z hz => by rcases hz with hz | hz; exact ⟨hz.1, by omega⟩; exact ⟨by omega, hz.2⟩) (fun z hz => hz.2)
        · have hpe := R1.pe
          have hrp := R1.reg.2.2.2
          have FW : Fr [] W y1 := (Fr.mono (Fr.app hF F2) (by have z0_ := Fr.size hF; have z1_ := Fr.size F2; intro y_ hy_ hl_; grind [blkOf]))
          exact (FW.app f3).mono (by
            intro z hz hlt
            simp at hz
            rcases hz with rfl | hz
            · omega
            · have := (hrp z hz).1; omega))
      (fun s y ⟨hs, _⟩ => by
        subst hs
        unfold g21_l27_b
        have k0 : decide ((p : Int) < (p : Int)) = false := by simp
        simp only [k0, Bool.false_eq_true, if_false]) (k := 0) (s := 0) (w := x1) (Nat.zero_le _) ⟨rfl, (none, 0, 0), [], R0, (Fr.mono (Fr.app hF fa) (by have z0_ := Fr.size hF; have z1_ := Fr.size fa; intro y_ hy_ hl_; grind [blkOf]))⟩
    refine ⟨w', ?_, ⟨qa, qc, qb, qp, es, R⟩, hF'⟩
    unfold g21_j13
    simp only [hx1]
    rw [g21_l27_x0_of g1, g21_l27_x0]
  have ht : Int.toNat (n : Int) = n := by omega
  have mk : ∀ (x : World) (e : TypeId) (z : Value), z.cells = #[z] → Own (x.alloc (.cells (zrow z (n * 1)) e)) e 1 (some ⟨x.heap.size, 0, none⟩, n, n) (List.replicate n z) ∧ Fr [] x (x.alloc (.cells (zrow z (n * 1)) e)) ∧ (x.alloc (.cells (zrow z (n * 1)) e)).heap.size = x.heap.size + 1 :=
    fun x e z hz => ⟨own_make x e hz (Nat.le_refl _) (by omega), Fr.alloc _, Array.size_push _⟩
  have fd := Fr.drew [] W
  have cond1 : (0 ≤ (n : Int) ∧ (n : Int) ≤ (n : Int) ∧ (n : Int) < 9223372036854775808 ∧ ((1 : Nat) : Int) * (n : Int) ≤ 2 ^ 48 ∧ (0 : Nat) < 1) = True := by simp; omega
  have cond8 : (0 ≤ (n : Int) ∧ (n : Int) ≤ (n : Int) ∧ (n : Int) < 9223372036854775808 ∧ ((8 : Nat) : Int) * (n : Int) ≤ 2 ^ 48 ∧ (0 : Nat) < 1) = True := by simp; omega
  have k1 : decide ((n : Int) < 1) = false := by simp; omega
  have k2 : decide ((n : Int) > 5) = false := by simp; omega
  have k3 : decide ((p : Int) < 1) = false := by simp; omega
  have k4 : decide ((p : Int) > 6) = false := by simp; omega
  have k5 : decide ((c : Int) < 1) = false := by simp; omega
  have k6 : decide ((c : Int) > (n : Int)) = false := by simp; omega
  -- the six orders
  have six : ∀ (A B C : Prop) [Decidable A] [Decidable B] [Decidable C] (G : Option (Value × World)), (∃ x qa qc qb, G = g21_j13 (n : Int) (p : Int) (c : Int) W qa qc qb x ∧ Own x 4 1 qa (List.replicate n (.bool false)) ∧ Own x 3 1 qc (List.replicate n (.int .i64 0)) ∧ Own x 38 1 qb (List.replicate n (.int .u64 0)) ∧ Fr [] W x ∧ (∀ y ∈ blkOf qa, W.heap.size ≤ y) ∧ (∀ y ∈ blkOf qc, W.heap.size ≤ y) ∧ ∀ y ∈ blkOf qb, W.heap.size ≤ y) →
      G = g21 (n : Int) (p : Int) (c : Int) W → ∃ b w', callF Try.prog 21 #[.int .i64 (n : Int), .int .i64 (p : Int), .int .i64 (c : Int)] W = some (.tuple #[.pointer (some ⟨b, 0, none⟩), .int .i64 0], w') ∧ Ref w' (fun y => W.heap.size ≤ y ∧ y < w'.heap.size) b ⟨List.replicate n nv0, newParts n c p, 1, 0⟩ ∧ Fr [] W w' := by
    intro A B C _ _ _ G ⟨x, qa, qc, qb, hG, oa, oc, ob, hF, ha, hc', hb⟩ hg
    obtain ⟨w', e, R, f⟩ := main x qa qc qb oa oc ob hF ha hc' hb
    exact ⟨_, w', g21_call (hg.symm.trans (hG.trans e)), R, f⟩
  refine six True True True (g21 (n : Int) (p : Int) (c : Int) W) ?_ rfl
  unfold g21
  simp only [k1, k2, k3, k4, k5, k6, Bool.false_eq_true, if_false, ht, cond1, cond8, if_true, g21_j7, g21_j8, g21_j9]
  obtain ⟨W0, hW0⟩ : ∃ W0, W.drew = W0 := ⟨_, rfl⟩
  rw [hW0] at fd ⊢
  have z0 := fd.size
  have three : ∀ (t1 t2 t3 : TypeId) (v1 v2 v3 : Value), v1.cells = #[v1] → v2.cells = #[v2] → v3.cells = #[v3] →
      Own (((W0.alloc (.cells (zrow v1 (n * 1)) t1)).alloc (.cells (zrow v2 (n * 1)) t2)).alloc (.cells (zrow v3 (n * 1)) t3)) t1 1 (some ⟨W0.heap.size, 0, none⟩, n, n) (List.replicate n v1) ∧
      Own (((W0.alloc (.cells (zrow v1 (n * 1)) t1)).alloc (.cells (zrow v2 (n * 1)) t2)).alloc (.cells (zrow v3 (n * 1)) t3)) t2 1 (some ⟨(W0.alloc (.cells (zrow v1 (n * 1)) t1)).heap.size, 0, none⟩, n, n) (List.replicate n v2) ∧
      Own (((W0.alloc (.cells (zrow v1 (n * 1)) t1)).alloc (.cells (zrow v2 (n * 1)) t2)).alloc (.cells (zrow v3 (n * 1)) t3)) t3 1 (some ⟨((W0.alloc (.cells (zrow v1 (n * 1)) t1)).alloc (.cells (zrow v2 (n * 1)) t2)).heap.size, 0, none⟩, n, n) (List.replicate n v3) ∧
      Fr [] W (((W0.alloc (.cells (zrow v1 (n * 1)) t1)).alloc (.cells (zrow v2 (n * 1)) t2)).alloc (.cells (zrow v3 (n * 1)) t3)) ∧ W.heap.size ≤ W0.heap.size ∧ W.heap.size ≤ (W0.alloc (.cells (zrow v1 (n * 1)) t1)).heap.size ∧ W.heap.size ≤ ((W0.alloc (.cells (zrow v1 (n * 1)) t1)).alloc (.cells (zrow v2 (n * 1)) t2)).heap.size := by
    intro t1 t2 t3 v1 v2 v3 h1 h2 h3
    obtain ⟨o1, f1, s1⟩ := mk W0 t1 v1 h1
    obtain ⟨o2, f2, s2⟩ := mk (W0.alloc (.cells (zrow v1 (n * 1)) t1)) t2 v2 h2
    obtain ⟨o3, f3, s3⟩ := mk ((W0.alloc (.cells (zrow v1 (n * 1)) t1)).alloc (.cells (zrow v2 (n * 1)) t2)) t3 v3 h3
    exact ⟨(o1.fr f2 (by simp)).fr f3 (by simp), o2.fr f3 (by simp), o3, (Fr.mono (Fr.app (Fr.app (Fr.app fd f1) f2) f3) (by have z0_ := Fr.size fd; have z1_ := Fr.size f1; have z2_ := Fr.size f2; have z3_ := Fr.size f3; intro y_ hy_ hl_; grind [blkOf])), by omega, by omega, by omega⟩
  have bl : ∀ {a : Nat} {m l : Nat}, W.heap.size ≤ a → ∀ y ∈ blkOf (some ⟨a, 0, none⟩, m, l), W.heap.size ≤ y := fun h y hy => by simp [blkOf] at hy; omega
  split
  · split
    · obtain ⟨a, b, c', f, x1, x2, x3⟩ := three 4 3 38 (.bool false) (.int .i64 0) (.int .u64 0) rfl rfl rfl
      exact ⟨_, _, _, _, rfl, a, b, c', f, bl x1, bl x2, bl x3⟩
    · obtain ⟨a, b, c', f, x1, x2, x3⟩ := three 4 38 3 (.bool false) (.int .u64 0) (.int .i64 0) rfl rfl rfl
      exact ⟨_, _, _, _, rfl, a, c', b, f, bl x1, bl x3, bl x2⟩
  · split
    · split
      · obtain ⟨a, b, c', f, x1, x2, x3⟩ := three 3 4 38 (.int .i64 0) (.bool false) (.int .u64 0) rfl rfl rfl
        exact ⟨_, _, _, _, rfl, b, a, c', f, bl x2, bl x1, bl x3⟩
      · obtain ⟨a, b, c', f, x1, x2, x3⟩ := three 3 38 4 (.int .i64 0) (.int .u64 0) (.bool false) rfl rfl rfl
        exact ⟨_, _, _, _, rfl, c', a, b, f, bl x3, bl x1, bl x2⟩
    · split
      · obtain ⟨a, b, c', f, x1, x2, x3⟩ := three 38 4 3 (.int .u64 0) (.bool false) (.int .i64 0) rfl rfl rfl
        exact ⟨_, _, _, _, rfl, b, c', a, f, bl x2, bl x3, bl x1⟩
      · obtain ⟨a, b, c', f, x1, x2, x3⟩ := three 38 3 4 (.int .u64 0) (.int .i64 0) (.bool false) rfl rfl rfl
        exact ⟨_, _, _, _, rfl, c', b, a, f, bl x3, bl x2, bl x1⟩
end Go.Proofs.Ytjcenfgmpbeldaa

namespace Go.Proofs.Ytjcenfgmpbeldaa
open Go Go.Ev
set_option maxRecDepth 100000
set_option linter.unusedVariables false
set_option linter.unusedSimpArgs false

def goodNew (a b c : Int) : Prop := (1 ≤ a ∧ a ≤ 5) ∧ (1 ≤ b ∧ b ≤ 6) ∧ 1 ≤ c ∧ c ≤ a

theorem bad11 (w : World) {a b c : Int} (h : ¬ goodNew a b c) : callF Try.prog 11 #[.int .i64 a, .int .i64 b, .int .i64 c] w = some (.tuple #[.pointer none, .int .i64 1], w) := by
  refine g11_call ?_
  unfold g11
  by_cases h1 : a < 1
  · have k : decide (a < 1) = true := by simp only [h1, decide_true]
    simp only [k, obs, asP_pointer, asB_bool, asI_int, asS_string, asSl_slice, asM_map, asTup0, asTup1, asTup2, asTup3, asTup4, asTup5, asTup6, asTup7, asTup8, asTup9, asAgg2, asAgg3, asAgg4, asAgg5, asAgg6, asAgg7, asAgg8, asAgg9, asAgg12, getD0, getD1, getD2, getD3, getD4, getD5, getD6, getD7, getD8, getD9, getD10, getD11, getD12, getD13, getD14, getD15, getD16, getD17, getD18, getD19, Bool.not_true, Bool.not_false, Bool.false_eq_true, Bool.true_eq_false, ↓reduceIte, decide_true, decide_false, Option.isNone_some, Option.isNone_none, Option.isSome_some, Option.isSome_none, beq_self_eq_true, bne_self_eq_false, Bool.and_true, Bool.true_and, Bool.and_false, Bool.false_and, not_true_eq_false, not_false_eq_true]
  have k1 : decide (a < 1) = false := by simp only [h1, decide_false]
  by_cases h2 : a > 5
  · have k : decide (a > 5) = true := by simp only [h2, decide_true]
    simp only [k1, k, obs, asP_pointer, asB_bool, asI_int, asS_string, asSl_slice, asM_map, asTup0, asTup1, asTup2, asTup3, asTup4, asTup5, asTup6, asTup7, asTup8, asTup9, asAgg2, asAgg3, asAgg4, asAgg5, asAgg6, asAgg7, asAgg8, asAgg9, asAgg12, getD0, getD1, getD2, getD3, getD4, getD5, getD6, getD7, getD8, getD9, getD10, getD11, getD12, getD13, getD14, getD15, getD16, getD17, getD18, getD19, Bool.not_true, Bool.not_false, Bool.false_eq_true, Bool.true_eq_false, ↓reduceIte, decide_true, decide_false, Option.isNone_some, Option.isNone_none, Option.isSome_some, Option.isSome_none, beq_self_eq_true, bne_self_eq_false, Bool.and_true, Bool.true_and, Bool.and_false, Bool.false_and, not_true_eq_false, not_false_eq_true]
  have k2 : decide (a > 5) = false := by simp only [h2, decide_false]
  by_cases h3 : b < 1
  · have k : decide (b < 1) = true := by simp only [h3, decide_true]
    simp only [k1, k2, k, obs, asP_pointer, asB_bool, asI_int, asS_string, asSl_slice, asM_map, asTup0, asTup1, asTup2, asTup3, asTup4, asTup5, asTup6, asTup7, asTup8, asTup9, asAgg2, asAgg3, asAgg4, asAgg5, asAgg6, asAgg7, asAgg8, asAgg9, asAgg12, getD0, getD1, getD2, getD3, getD4, getD5, getD6, getD7, getD8, getD9, getD10, getD11, getD12, getD13, getD14, getD15, getD16, getD17, getD18, getD19, Bool.not_true, Bool.not_false, Bool.false_eq_true, Bool.true_eq_false, ↓reduceIte, decide_true, decide_false, Option.isNone_some, Option.isNone_none, Option.isSome_some, Option.isSome_none, beq_self_eq_true, bne_self_eq_false, Bool.and_true, Bool.true_and, Bool.and_false, Bool.false_and, not_true_eq_false, not_false_eq_true]
  have k3 : decide (b < 1) = false := by simp only [h3, decide_false]
  by_cases h4 : b > 6
  · have k : decide (b > 6) = true := by simp only [h4, decide_true]
    simp only [k1, k2, k3, k, obs, asP_pointer, asB_bool, asI_int, asS_string, asSl_slice, asM_map, asTup0, asTup1, asTup2, asTup3, asTup4, asTup5, asTup6, asTup7, asTup8, asTup9, asAgg2, asAgg3, asAgg4, asAgg5, asAgg6, asAgg7, asAgg8, asAgg9, asAgg12, getD0, getD1, getD2, getD3, getD4, getD5, getD6, getD7, getD8, getD9, getD10, getD11, getD12, getD13, getD14, getD15, getD16, getD17, getD18, getD19, Bool.not_true, Bool.not_false, Bool.false_eq_true, Bool.true_eq_false, ↓reduceIte, decide_true, decide_false, Option.isNone_some, Option.isNone_none, Option.isSome_some, Option.isSome_none, beq_self_eq_true, bne_self_eq_false, Bool.and_true, Bool.true_and, Bool.and_false, Bool.false_and, not_true_eq_false, not_false_eq_true]
  have k4 : decide (b > 6) = false := by simp only [h4, decide_false]
  by_cases h5 : c < 1
  · have k : decide (c < 1) = true := by simp only [h5, decide_true]
    simp only [k1, k2, k3, k4, k, obs, asP_pointer, asB_bool, asI_int, asS_string, asSl_slice, asM_map, asTup0, asTup1, asTup2, asTup3, asTup4, asTup5, asTup6, asTup7, asTup8, asTup9, asAgg2, asAgg3, asAgg4, asAgg5, asAgg6, asAgg7, asAgg8, asAgg9, asAgg12, getD0, getD1, getD2, getD3, getD4, getD5, getD6, getD7, getD8, getD9, getD10, getD11, getD12, getD13, getD14, getD15, getD16, getD17, getD18, getD19, Bool.not_true, Bool.not_false, Bool.false_eq_true, Bool.true_eq_false, ↓reduceIte, decide_true, decide_false, Option.isNone_some, Option.isNone_none, Option.isSome_some, Option.isSome_none, beq_self_eq_true, bne_self_eq_false, Bool.and_true, Bool.true_and, Bool.and_false, Bool.false_and, not_true_eq_false, not_false_eq_true]
  have k5 : decide (c < 1) = false := by simp only [h5, decide_false]
  have h6 : c > a := by unfold goodNew at h; omega
  have k : decide (c > a) = true := by simp only [h6, decide_true]
  simp only [k1, k2, k3, k4, k5, k, obs, asP_pointer, asB_bool, asI_int, asS_string, asSl_slice, asM_map, asTup0, asTup1, asTup2, asTup3, asTup4, asTup5, asTup6, asTup7, asTup8, asTup9, asAgg2, asAgg3, asAgg4, asAgg5, asAgg6, asAgg7, asAgg8, asAgg9, asAgg12, getD0, getD1, getD2, getD3, getD4, getD5, getD6, getD7, getD8, getD9, getD10, getD11, getD12, getD13, getD14, getD15, getD16, getD17, getD18, getD19, Bool.not_true, Bool.not_false, Bool.false_eq_true, Bool.true_eq_false, ↓reduceIte, decide_true, decide_false, Option.isNone_some, Option.isNone_none, Option.isSome_some, Option.isSome_none, beq_self_eq_true, bne_self_eq_false, Bool.and_true, Bool.true_and, Bool.and_false, Bool.false_and, not_true_eq_false, not_false_eq_true]

theorem bad21 (w : World) {a b c : Int} (h : ¬ goodNew a b c) : callF Try.prog 21 #[.int .i64 a, .int .i64 b, .int .i64 c] w = some (.tuple #[.pointer none, .int .i64 1], w) := by
  refine g21_call ?_
  unfold g21
  by_cases h1 : a < 1
  · have k : decide (a < 1) = true := by simp only [h1, decide_true]
    simp only [k, obs, asP_pointer, asB_bool, asI_int, asS_string, asSl_slice, asM_map, asTup0, asTup1, asTup2, asTup3, asTup4, asTup5, asTup6, asTup7, asTup8, asTup9, asAgg2, asAgg3, asAgg4, asAgg5, asAgg6, asAgg7, asAgg8, asAgg9, asAgg12, getD0, getD1, getD2, getD3, getD4, getD5, getD6, getD7, getD8, getD9, getD10, getD11, getD12, getD13, getD14, getD15, getD16, getD17, getD18, getD19, Bool.not_true, Bool.not_false, Bool.false_eq_true, Bool.true_eq_false, ↓reduceIte, decide_true, decide_false, Option.isNone_some, Option.isNone_none, Option.isSome_some, Option.isSome_none, beq_self_eq_true, bne_self_eq_false, Bool.and_true, Bool.true_and, Bool.and_false, Bool.false_and, not_true_eq_false, not_false_eq_true]
  have k1 : decide (a < 1) = false := by simp only [h1, decide_false]
  by_cases h2 : a > 5
  · have k : decide (a > 5) = true := by simp only [h2, decide_true]
    simp only [k1, k, obs, asP_pointer, asB_bool, asI_int, asS_string, asSl_slice, asM_map, asTup0, asTup1, asTup2, asTup3, asTup4, asTup5, asTup6, asTup7, asTup8, asTup9, asAgg2, asAgg3, asAgg4, asAgg5, asAgg6, asAgg7, asAgg8, asAgg9, asAgg12, getD0, getD1, getD2, getD3, getD4, getD5, getD6, getD7, getD8, getD9, getD10, getD11, getD12, getD13, getD14, getD15, getD16, getD17, getD18, getD19, Bool.not_true, Bool.not_false, Bool.false_eq_true, Bool.true_eq_false, ↓reduceIte, decide_true, decide_false, Option.isNone_some, Option.isNone_none, Option.isSome_some, Option.isSome_none, beq_self_eq_true, bne_self_eq_false, Bool.and_true, Bool.true_and, Bool.and_false, Bool.false_and, not_true_eq_false, not_false_eq_true]
  have k2 : decide (a > 5) = false := by simp only [h2, decide_false]
  by_cases h3 : b < 1
  · have k : decide (b < 1) = true := by simp only [h3, decide_true]
    simp only [k1, k2, k, obs, asP_pointer, asB_bool, asI_int, asS_string, asSl_slice, asM_map, asTup0, asTup1, asTup2, asTup3, asTup4, asTup5, asTup6, asTup7, asTup8, asTup9, asAgg2, asAgg3, asAgg4, asAgg5, asAgg6, asAgg7, asAgg8, asAgg9, asAgg12, getD0, getD1, getD2, getD3, getD4, getD5, getD6, getD7, getD8, getD9, getD10, getD11, getD12, getD13, getD14, getD15, getD16, getD17, getD18, getD19, Bool.not_true, Bool.not_false, Bool.false_eq_true, Bool.true_eq_false, ↓reduceIte, decide_true, decide_false, Option.isNone_some, Option.isNone_none, Option.isSome_some, Option.isSome_none, beq_self_eq_true, bne_self_eq_false, Bool.and_true, Bool.true_and, Bool.and_false, Bool.false_and, not_true_eq_false, not_false_eq_true]
  have k3 : decide (b < 1) = false := by simp only [h3, decide_false]
  by_cases h4 : b > 6
  · have k : decide (b > 6) = true := by simp only [h4, decide_true]
    simp only [k1, k2, k3, k, obs, asP_pointer, asB_bool, asI_int, asS_string, asSl_slice, asM_map, asTup0, asTup1, asTup2, asTup3, asTup4, asTup5, asTup6, asTup7, asTup8, asTup9, asAgg2, asAgg3, asAgg4, asAgg5, asAgg6, asAgg7, asAgg8, asAgg9, asAgg12, getD0, getD1, getD2, getD3, getD4, getD5, getD6, getD7, getD8, getD9, getD10, getD11, getD12, getD13, getD14, getD15, getD16, getD17, getD18, getD19, Bool.not_true, Bool.not_false, Bool.false_eq_true, Bool.true_eq_false, ↓reduceIte, decide_true, decide_false, Option.isNone_some, Option.isNone_none, Option.isSome_some, Option.isSome_none, beq_self_eq_true, bne_self_eq_false, Bool.and_true, Bool.true_and, Bool.and_false, Bool.false_and, not_true_eq_false, not_false_eq_true]
  have k4 : decide (b > 6) = false := by simp only [h4, decide_false]
  by_cases h5 : c < 1
  · have k : decide (c < 1) = true := by simp only [h5, decide_true]
    simp only [k1, k2, k3, k4, k, obs, asP_pointer, asB_bool, asI_int, asS_string, asSl_slice, asM_map, asTup0, asTup1, asTup2, asTup3, asTup4, asTup5, asTup6, asTup7, asTup8, asTup9, asAgg2, asAgg3, asAgg4, asAgg5, asAgg6, asAgg7, asAgg8, asAgg9, asAgg12, getD0, getD1, getD2, getD3, getD4, getD5, getD6, getD7, getD8, getD9, getD10, getD11, getD12, getD13, getD14, getD15, getD16, getD17, getD18, getD19, Bool.not_true, Bool.not_false, Bool.false_eq_true, Bool.true_eq_false, ↓reduceIte, decide_true, decide_false, Option.isNone_some, Option.isNone_none, Option.isSome_some, Option.isSome_none, beq_self_eq_true, bne_self_eq_false, Bool.and_true, Bool.true_and, Bool.and_false, Bool.false_and, not_true_eq_false, not_false_eq_true]
  have k5 : decide (c < 1) = false := by simp only [h5, decide_false]
  have h6 : c > a := by unfold goodNew at h; omega
  have k : decide (c > a) = true := by simp only [h6, decide_true]
  simp only [k1, k2, k3, k4, k5, k, obs, asP_pointer, asB_bool, asI_int, asS_string, asSl_slice, asM_map, asTup0, asTup1, asTup2, asTup3, asTup4, asTup5, asTup6, asTup7, asTup8, asTup9, asAgg2, asAgg3, asAgg4, asAgg5, asAgg6, asAgg7, asAgg8, asAgg9, asAgg12, getD0, getD1, getD2, getD3, getD4, getD5, getD6, getD7, getD8, getD9, getD10, getD11, getD12, getD13, getD14, getD15, getD16, getD17, getD18, getD19, Bool.not_true, Bool.not_false, Bool.false_eq_true, Bool.true_eq_false, ↓reduceIte, decide_true, decide_false, Option.isNone_some, Option.isNone_none, Option.isSome_some, Option.isSome_none, beq_self_eq_true, bne_self_eq_false, Bool.and_true, Bool.true_and, Bool.and_false, Bool.false_and, not_true_eq_false, not_false_eq_true]

theorem ImageNews_main (W : World) (n0 : Int) (h0 : IntKind.i64.min ≤ n0 ∧ n0 ≤ IntKind.i64.max) (n1 : Int) (h1 : IntKind.i64.min ≤ n1 ∧ n1 ≤ IntKind.i64.max) (n2 : Int) (h2 : IntKind.i64.min ≤ n2 ∧ n2 ≤ IntKind.i64.max) :
    ∃ w', callF Try.prog 6 #[.int .i64 n0, .int .i64 n1, .int .i64 n2] W = some (.bool true, w') ∧ Fr [] W w' := by
  by_cases hg : goodNew n0 n1 n2
  case neg =>
    obtain ⟨w1, e1, f1⟩ := awake12 W
    refine ⟨w1, g6_call ?_, f1⟩
    have k1 : ((1 : Int) != 1) = false := rfl
    have tt : (true == true) = true := rfl
    unfold g6
    simp only [bad11 W hg, bad21 W hg, e1, k1, tt, obs, asP_pointer, asB_bool, asI_int, asS_string, asSl_slice, asM_map, asTup0, asTup1, asTup2, asTup3, asTup4, asTup5, asTup6, asTup7, asTup8, asTup9, asAgg2, asAgg3, asAgg4, asAgg5, asAgg6, asAgg7, asAgg8, asAgg9, asAgg12, getD0, getD1, getD2, getD3, getD4, getD5, getD6, getD7, getD8, getD9, getD10, getD11, getD12, getD13, getD14, getD15, getD16, getD17, getD18, getD19, Bool.not_true, Bool.not_false, Bool.false_eq_true, Bool.true_eq_false, ↓reduceIte, decide_true, decide_false, Option.isNone_some, Option.isNone_none, Option.isSome_some, Option.isSome_none, beq_self_eq_true, bne_self_eq_false, Bool.and_true, Bool.true_and, Bool.and_false, Bool.false_and, not_true_eq_false, not_false_eq_true]
  obtain ⟨a, rfl⟩ : ∃ a : Nat, n0 = (a : Int) := ⟨n0.toNat, by unfold goodNew at hg; omega⟩
  obtain ⟨b, rfl⟩ : ∃ b : Nat, n1 = (b : Int) := ⟨n1.toNat, by unfold goodNew at hg; omega⟩
  obtain ⟨c, rfl⟩ : ∃ c : Nat, n2 = (c : Int) := ⟨n2.toNat, by unfold goodNew at hg; omega⟩
  have ha : 1 ≤ a ∧ a ≤ 5 := by unfold goodNew at hg; omega
  have hb : 1 ≤ b ∧ b ≤ 6 := by unfold goodNew at hg; omega
  have hc : 1 ≤ c ∧ c ≤ a := by unfold goodNew at hg; omega
  obtain ⟨w1, D, p, ct, nq, pq, es, e1, R1, hv1, f1, hD⟩ := new11 W ha hb hc
  have hI : Img w1 D p ⟨List.replicate a nv0, newParts a c b, 1, 0⟩ := ⟨ct, nq, pq, es, R1, hv1⟩
  obtain ⟨q, w2, e2, hR, f2⟩ := new21 w1 ha hb hc
  obtain ⟨w3, e3, f3⟩ := awake12 w2
  have F23 : Fr [] w1 w3 := (Fr.mono (Fr.app f2 f3) (by have z0_ := Fr.size f2; have z1_ := Fr.size f3; intro y_ hy_ hl_; grind [blkOf]))
  obtain ⟨w4, e4, f4⟩ := same22 (hI.fr F23 (by simp)) (hR.fr f3 (by simp)) (by show (0 : Int) ≤ 1 ∧ (1 : Int) ≤ 1001; omega) (by simp; omega) (by simp [newParts]; omega) (fun v hv => by
    obtain ⟨k, hk, rfl⟩ := List.mem_map.mp hv
    have : (isort (onR a c k)).length = c := by rw [(isort_perm _).length_eq]; simp [onR]
    refine ⟨?_, ?_, Nat.zero_le _⟩
    · show (isort (onR a c k)).length ≤ _; omega
    · show (isort (onR a c k)).length ≤ _; omega)
  refine ⟨w4, g6_call ?_, (Fr.mono (Fr.app (Fr.app f1 F23) f4) (by have z0_ := Fr.size f1; have z1_ := Fr.size F23; have z2_ := Fr.size f4; intro y_ hy_ hl_; grind [blkOf]))⟩
  have k1 : ((0 : Int) != 0) = false := rfl
  have ff : (false == false) = true := rfl
  unfold g6
  simp only [e1, e2, e3, k1, ff, e4, obs, asP_pointer, asB_bool, asI_int, asS_string, asSl_slice, asM_map, asTup0, asTup1, asTup2, asTup3, asTup4, asTup5, asTup6, asTup7, asTup8, asTup9, asAgg2, asAgg3, asAgg4, asAgg5, asAgg6, asAgg7, asAgg8, asAgg9, asAgg12, getD0, getD1, getD2, getD3, getD4, getD5, getD6, getD7, getD8, getD9, getD10, getD11, getD12, getD13, getD14, getD15, getD16, getD17, getD18, getD19, Bool.not_true, Bool.not_false, Bool.false_eq_true, Bool.true_eq_false, ↓reduceIte, decide_true, decide_false, Option.isNone_some, Option.isNone_none, Option.isSome_some, Option.isSome_none, beq_self_eq_true, bne_self_eq_false, Bool.and_true, Bool.true_and, Bool.and_false, Bool.false_and, not_true_eq_false, not_false_eq_true]
end Go.Proofs.Ytjcenfgmpbeldaa
