/-
  ImageReads: lemmas on what Go functions of this seat come to (for whatever arguments, as each says). No condition but those that stand in each lemma.
-/
import Derived.Test.YtjcenfgmpbeldaaImageAe
import Derived.Test.YtjcenfgmpbeldaaImageV2
import Derived.Test.YtjcenfgmpbeldaaImageZs
import Derived.Test.YtjcenfgmpbeldaaImageV3
import Derived.Test.YtjcenfgmpbeldaaImageL9
namespace Go.Proofs.Ytjcenfgmpbeldaa
open Go Go.Ev
set_option maxRecDepth 100000
set_option linter.unusedVariables false
set_option linter.unusedSimpArgs false

/-- the document's image in memory -/
structure RefR (w : World) (E : Nat → Prop) (p : Nat) (qa qc qb qp : Sh) (es : List PE) (m : IM) : Prop where
  blk : Blk w p [.slice qa.1 qa.2.1 qa.2.2, .slice qc.1 qc.2.1 qc.2.2, .slice qb.1 qb.2.1 qb.2.2, .slice qp.1 qp.2.1 qp.2.2, .int .u64 m.next, .int .i64 m.count] 89
  oa : Own w 4 1 qa (m.ns.map fun n => .bool n.al)
  oc : Own w 3 1 qc (m.ns.map fun n => .int .i64 n.cm)
  ob : Own w 38 1 qb (m.ns.map fun n => .int .u64 n.bk)
  op : Own w 30 6 qp (ptCs es)
  vs : es.map (·.v) = m.vs
  ok : ∀ e ∈ es, PeOk w E e
  pe : E p
  reg : (∀ y ∈ blkOf qa, E y) ∧ (∀ y ∈ blkOf qc, E y) ∧ (∀ y ∈ blkOf qb, E y) ∧ ∀ y ∈ blkOf qp, E y
  lt : ∀ y, E y → y < w.heap.size
def Ref (w : World) (E : Nat → Prop) (p : Nat) (m : IM) : Prop := ∃ qa qc qb qp es, RefR w E p qa qc qb qp es m

theorem RefR.fr {w w' : World} {E : Nat → Prop} {p : Nat} {qa qc qb qp : Sh} {es : List PE} {m : IM} {S : List Nat} (h : RefR w E p qa qc qb qp es m) (hf : Fr S w w') (hS : ∀ y ∈ S, y < w.heap.size → ¬ E y) : RefR w' E p qa qc qb qp es m := by
  have hf' := fr_old hf
  have hS' : ∀ y ∈ S.filter (· < w.heap.size), ¬ E y := by intro y hy; simp at hy; exact hS y hy.1 hy.2
  refine ⟨h.blk.fr hf' (fun hm => hS' _ hm h.pe), h.oa.fr hf' (fun y hy hm => hS' y hm (h.reg.1 y hy)), h.oc.fr hf' (fun y hy hm => hS' y hm (h.reg.2.1 y hy)), h.ob.fr hf' (fun y hy hm => hS' y hm (h.reg.2.2.1 y hy)), h.op.fr hf' (fun y hy hm => hS' y hm (h.reg.2.2.2 y hy)), h.vs,
    fun e he => (h.ok e he).fr hf' (fun y hy => ⟨fun hm => hS' y hy ((h.ok e he).reg.1 y hm), fun hm => hS' y hy ((h.ok e he).reg.2.1 y hm), fun hm => hS' y hy ((h.ok e he).reg.2.2 y hm)⟩) (fun _ => id), h.pe, h.reg, fun y hy => ?_⟩
  have := h.lt y hy; have := hf.size; omega
theorem Ref.fr {w w' : World} {E : Nat → Prop} {p : Nat} {m : IM} {S : List Nat} (h : Ref w E p m) (hf : Fr S w w') (hS : ∀ y ∈ S, y < w.heap.size → ¬ E y) : Ref w' E p m := by
  obtain ⟨qa, qc, qb, qp, es, h⟩ := h; exact ⟨qa, qc, qb, qp, es, h.fr hf hS⟩

/-- two parts that are one -/
theorem samePart43 {w : World} {v : PV} {qi qr qt ri rr rt : Sh} (h1 : SlI .i64 w qi v.isr) (h2 : SlI .i64 w qr v.rep) (h3 : SlI .i64 w qt v.tgt) (g1 : SlI .i64 w ri v.isr) (g2 : SlI .i64 w rr v.rep) (g3 : SlI .i64 w rt v.tgt)
    (l : v.isr.length ≤ 1000000000 ∧ v.rep.length ≤ 1000000000 ∧ v.tgt.length ≤ 1000000000) :
    ∃ w', callF Try.prog 43 #[v.arg qi qr qt, v.arg ri rr rt] w = some (.bool true, w') ∧ Fr [] w w' := by
  have fa : Fr [] w (w.alloc (.cells #[.int .i64 v.ld, .int .i64 v.ep, .int .i64 v.vr, .slice qi.1 qi.2.1 qi.2.2, .slice qr.1 qr.2.1 qr.2.2, .slice qt.1 qt.2.1 qt.2.2] 30)) := Fr.alloc _
  have ba : Blk (w.alloc (.cells #[.int .i64 v.ld, .int .i64 v.ep, .int .i64 v.vr, .slice qi.1 qi.2.1 qi.2.2, .slice qr.1 qr.2.1 qr.2.2, .slice qt.1 qt.2.1 qt.2.2] 30)) w.heap.size (v.cs qi qr qt) 30 := Blk.new w (v.cs qi qr qt) 30
  obtain ⟨w1, hw1⟩ : ∃ w1, w.alloc (.cells #[.int .i64 v.ld, .int .i64 v.ep, .int .i64 v.vr, .slice qi.1 qi.2.1 qi.2.2, .slice qr.1 qr.2.1 qr.2.2, .slice qt.1 qt.2.1 qt.2.2] 30) = w1 := ⟨_, rfl⟩
  rw [hw1] at fa ba
  have fb : Fr [] w1 (w1.alloc (.cells #[.int .i64 v.ld, .int .i64 v.ep, .int .i64 v.vr, .slice ri.1 ri.2.1 ri.2.2, .slice rr.1 rr.2.1 rr.2.2, .slice rt.1 rt.2.1 rt.2.2] 30)) := Fr.alloc _
  have bb : Blk (w1.alloc (.cells #[.int .i64 v.ld, .int .i64 v.ep, .int .i64 v.vr, .slice ri.1 ri.2.1 ri.2.2, .slice rr.1 rr.2.1 rr.2.2, .slice rt.1 rt.2.1 rt.2.2] 30)) w1.heap.size (v.cs ri rr rt) 30 := Blk.new w1 (v.cs ri rr rt) 30
  obtain ⟨w2, hw2⟩ : ∃ w2, w1.alloc (.cells #[.int .i64 v.ld, .int .i64 v.ep, .int .i64 v.vr, .slice ri.1 ri.2.1 ri.2.2, .slice rr.1 rr.2.1 rr.2.2, .slice rt.1 rt.2.1 rt.2.2] 30) = w2 := ⟨_, rfl⟩
  rw [hw2] at fb bb
  have F2 : Fr [] w w2 := (Fr.mono (Fr.app fa fb) (by have z0_ := Fr.size fa; have z1_ := Fr.size fb; intro y_ hy_ hl_; grind [blkOf]))
  have b1 := ba.fr fb (by simp)
  have a0 : w2.cell? ⟨w.heap.size, 0, none⟩ = some (.int .i64 v.ld) := b1.cell 0
  have a1 : w2.cell? ⟨w.heap.size, 1, none⟩ = some (.int .i64 v.ep) := b1.cell 1
  have a2 : w2.cell? ⟨w.heap.size, 2, none⟩ = some (.int .i64 v.vr) := b1.cell 2
  have a3 : w2.cell? ⟨w.heap.size, 3, none⟩ = some (.slice qi.1 qi.2.1 qi.2.2) := b1.cell 3
  have c0 : w2.cell? ⟨w1.heap.size, 0, none⟩ = some (.int .i64 v.ld) := bb.cell 0
  have c1 : w2.cell? ⟨w1.heap.size, 1, none⟩ = some (.int .i64 v.ep) := bb.cell 1
  have c2 : w2.cell? ⟨w1.heap.size, 2, none⟩ = some (.int .i64 v.vr) := bb.cell 2
  have c3 : w2.cell? ⟨w1.heap.size, 3, none⟩ = some (.slice ri.1 ri.2.1 ri.2.2) := bb.cell 3
  obtain ⟨w3, e3, f3⟩ := sameInts19 (h1.fr3 F2 (by simp)) (g1.fr3 F2 (by simp)) (by omega)
  have F3 : Fr [] w w3 := (Fr.mono (Fr.app F2 f3) (by have z0_ := Fr.size F2; have z1_ := Fr.size f3; intro y_ hy_ hl_; grind [blkOf]))
  have a4 : w3.cell? ⟨w.heap.size, 4, none⟩ = some (.slice qr.1 qr.2.1 qr.2.2) := (b1.fr f3 (by simp)).cell 4
  have c4 : w3.cell? ⟨w1.heap.size, 4, none⟩ = some (.slice rr.1 rr.2.1 rr.2.2) := (bb.fr f3 (by simp)).cell 4
  obtain ⟨w4, e4, f4⟩ := sameInts19 (h2.fr3 F3 (by simp)) (g2.fr3 F3 (by simp)) (by omega)
  have F4 : Fr [] w w4 := (Fr.mono (Fr.app F3 f4) (by have z0_ := Fr.size F3; have z1_ := Fr.size f4; intro y_ hy_ hl_; grind [blkOf]))
  have F24 : Fr [] w2 w4 := (Fr.mono (Fr.app f3 f4) (by have z0_ := Fr.size f3; have z1_ := Fr.size f4; intro y_ hy_ hl_; grind [blkOf]))
  have a5 : w4.cell? ⟨w.heap.size, 5, none⟩ = some (.slice qt.1 qt.2.1 qt.2.2) := (b1.fr F24 (by simp)).cell 5
  have c5 : w4.cell? ⟨w1.heap.size, 5, none⟩ = some (.slice rt.1 rt.2.1 rt.2.2) := (bb.fr F24 (by simp)).cell 5
  obtain ⟨w5, e5, f5⟩ := sameInts19 (h3.fr3 F4 (by simp)) (g3.fr3 F4 (by simp)) (by omega)
  have kk : ∀ l : List Int, decide (l = l) = true := fun l => by simp
  have nn : ∀ n : Int, (n == n) = true := fun n => by simp
  rw [kk] at e3 e4 e5
  refine ⟨w5, g43_call (u0c0 := v.ld) (u0c1 := v.ep) (u0c2 := v.vr) (u0c3 := qi) (u0c4 := qr) (u0c5 := qt) (u1c0 := v.ld) (u1c1 := v.ep) (u1c2 := v.vr) (u1c3 := ri) (u1c4 := rr) (u1c5 := rt) ?_, (Fr.mono (Fr.app F4 f5) (by have z0_ := Fr.size F4; have z1_ := Fr.size f5; intro y_ hy_ hl_; grind [blkOf]))⟩
  unfold g43
  simp only [hw1]
  simp only [hw2, addr_add, Nat.zero_add, a0, c0, nn, a1, c1, a2, c2, a3, c3, e3, a4, c4, e4, a5, c5, e5, obs, asP_pointer, asB_bool, asI_int, asS_string, asSl_slice, asM_map, asTup0, asTup1, asTup2, asTup3, asTup4, asTup5, asTup6, asTup7, asTup8, asTup9, asAgg2, asAgg3, asAgg4, asAgg5, asAgg6, asAgg7, asAgg8, asAgg9, asAgg12, getD0, getD1, getD2, getD3, getD4, getD5, getD6, getD7, getD8, getD9, getD10, getD11, getD12, getD13, getD14, getD15, getD16, getD17, getD18, getD19, Bool.not_true, Bool.not_false, Bool.false_eq_true, Bool.true_eq_false, ↓reduceIte, decide_true, decide_false, Option.isNone_some, Option.isNone_none, Option.isSome_some, Option.isSome_none, beq_self_eq_true, bne_self_eq_false, Bool.and_true, Bool.true_and, Bool.and_false, Bool.false_and, not_true_eq_false, not_false_eq_true]

/-- a list of a part is filled with sevens -/
theorem fill95 {w : World} {q : Sh} {l : List Int} {r61 : Value × World} {cs : List Value} {u0 u1 : Option Addr} {s59 : Bool × Int} {n4 : Int} (h : Own w 3 1 q (intsV' l)) (hl : l.length ≤ 1000000000) (hB : Blk w r61.2.heap.size cs 30) (hc : cs[3]? = some (.slice q.1 q.2.1 q.2.2)) :
    ∃ t w', loopS (g22_l95_b q r61 u0 u1 s59 n4) 0 w = some (.exit 4, t, w') ∧ Fr (blkOf q) w w' := by
  have hq := h.len
  simp only [intsV', List.length_map, Nat.mul_one] at hq
  obtain ⟨t, w', g1, rfl, l', o, hF, _⟩ := loopS_countX 4 (b := g22_l95_b q r61 u0 u1 s59 n4) (n := l.length)
    (I := fun k s x => s = (k : Int) ∧ ∃ l' : List Int, Own x 3 1 q (intsV' l') ∧ Fr (blkOf q) w x ∧ Blk x r61.2.heap.size cs 30)
    (fun k s x hk ⟨hs, l', o, hF, hBx⟩ => by
      subst hs
      have hql := o.len
      simp only [intsV', List.length_map, Nat.mul_one] at hql
      have c3 : x.cell? ⟨r61.2.heap.size, 3, none⟩ = some (.slice q.1 q.2.1 q.2.2) := by rw [hBx.cell 3]; exact hc
      obtain ⟨g, off, qa, i1, c1⟩ := ints_at o (i := k) (by omega)
      obtain ⟨s3, o3, f3⟩ := o.set qa (k := k) (by simp [intsV']; omega) (u := .int .i64 7) rfl
      have k0 : decide ((k : Int) < (q.2.1 : Int)) = true := by simp; omega
      have kw := wrap_succ (n := k) (by omega)
      refine ⟨_, _, ?_, rfl, l'.set k 7, by simpa [intsV', List.map_set] using o3, hF.trans f3, hBx.fr f3 (hBx.notin o (by decide))⟩
      unfold g22_l95_b
      simp only [k0, addr_add, Nat.zero_add, c3, i1, s3, kw, obs, asP_pointer, asB_bool, asI_int, asS_string, asSl_slice, asM_map, asTup0, asTup1, asTup2, asTup3, asTup4, asTup5, asTup6, asTup7, asTup8, asTup9, asAgg2, asAgg3, asAgg4, asAgg5, asAgg6, asAgg7, asAgg8, asAgg9, asAgg12, getD0, getD1, getD2, getD3, getD4, getD5, getD6, getD7, getD8, getD9, getD10, getD11, getD12, getD13, getD14, getD15, getD16, getD17, getD18, getD19, Bool.not_true, Bool.not_false, Bool.false_eq_true, Bool.true_eq_false, ↓reduceIte, decide_true, decide_false, Option.isNone_some, Option.isNone_none, Option.isSome_some, Option.isSome_none, beq_self_eq_true, bne_self_eq_false, Bool.and_true, Bool.true_and, Bool.and_false, Bool.false_and, not_true_eq_false, not_false_eq_true])
    (fun s x ⟨hs, _⟩ => by
      subst hs
      unfold g22_l95_b
      have k0 : decide ((l.length : Int) < (q.2.1 : Int)) = false := by simp; omega
      simp only [k0, Bool.false_eq_true, if_false]) (k := 0) (s := 0) (w := w) (Nat.zero_le _) ⟨rfl, l, h, Fr.refl _ _, hB⟩
  exact ⟨_, w', g1, hF⟩
theorem fill112 {w : World} {q : Sh} {l : List Int} {r61 : Value × World} {cs : List Value} {u0 u1 : Option Addr} {s59 : Bool × Int} {n4 : Int} (h : Own w 3 1 q (intsV' l)) (hl : l.length ≤ 1000000000) (hB : Blk w r61.2.heap.size cs 30) (hc : cs[4]? = some (.slice q.1 q.2.1 q.2.2)) :
    ∃ t w', loopS (g22_l112_b q r61 u0 u1 s59 n4) 0 w = some (.exit 6, t, w') ∧ Fr (blkOf q) w w' := by
  have hq := h.len
  simp only [intsV', List.length_map, Nat.mul_one] at hq
  obtain ⟨t, w', g1, rfl, l', o, hF, _⟩ := loopS_countX 6 (b := g22_l112_b q r61 u0 u1 s59 n4) (n := l.length)
    (I := fun k s x => s = (k : Int) ∧ ∃ l' : List Int, Own x 3 1 q (intsV' l') ∧ Fr (blkOf q) w x ∧ Blk x r61.2.heap.size cs 30)
    (fun k s x hk ⟨hs, l', o, hF, hBx⟩ => by
      subst hs
      have hql := o.len
      simp only [intsV', List.length_map, Nat.mul_one] at hql
      have c3 : x.cell? ⟨r61.2.heap.size, 4, none⟩ = some (.slice q.1 q.2.1 q.2.2) := by rw [hBx.cell 4]; exact hc
      obtain ⟨g, off, qa, i1, c1⟩ := ints_at o (i := k) (by omega)
      obtain ⟨s3, o3, f3⟩ := o.set qa (k := k) (by simp [intsV']; omega) (u := .int .i64 7) rfl
      have k0 : decide ((k : Int) < (q.2.1 : Int)) = true := by simp; omega
      have kw := wrap_succ (n := k) (by omega)
      refine ⟨_, _, ?_, rfl, l'.set k 7, by simpa [intsV', List.map_set] using o3, hF.trans f3, hBx.fr f3 (hBx.notin o (by decide))⟩
      unfold g22_l112_b
      simp only [k0, addr_add, Nat.zero_add, c3, i1, s3, kw, obs, asP_pointer, asB_bool, asI_int, asS_string, asSl_slice, asM_map, asTup0, asTup1, asTup2, asTup3, asTup4, asTup5, asTup6, asTup7, asTup8, asTup9, asAgg2, asAgg3, asAgg4, asAgg5, asAgg6, asAgg7, asAgg8, asAgg9, asAgg12, getD0, getD1, getD2, getD3, getD4, getD5, getD6, getD7, getD8, getD9, getD10, getD11, getD12, getD13, getD14, getD15, getD16, getD17, getD18, getD19, Bool.not_true, Bool.not_false, Bool.false_eq_true, Bool.true_eq_false, ↓reduceIte, decide_true, decide_false, Option.isNone_some, Option.isNone_none, Option.isSome_some, Option.isSome_none, beq_self_eq_true, bne_self_eq_false, Bool.and_true, Bool.true_and, Bool.and_false, Bool.false_and, not_true_eq_false, not_false_eq_true])
    (fun s x ⟨hs, _⟩ => by
      subst hs
      unfold g22_l112_b
      have k0 : decide ((l.length : Int) < (q.2.1 : Int)) = false := by simp; omega
      simp only [k0, Bool.false_eq_true, if_false]) (k := 0) (s := 0) (w := w) (Nat.zero_le _) ⟨rfl, l, h, Fr.refl _ _, hB⟩
  exact ⟨_, w', g1, hF⟩
theorem b125 : @g22_l125_b = @g22_l95_b := rfl
theorem b199 : @g22_l199_b = @g22_l95_b := rfl
theorem b139 : @g22_l139_b = @g22_l112_b := rfl
theorem b213 : @g22_l213_b = @g22_l112_b := rfl

theorem img_node0 {w : World} {D : Nat → Prop} {b : Nat} {m : IM} (h : Img w D b m) {n : Int} (hn : n < 0 ∨ (m.ns.length : Int) ≤ n) : ∃ w', callF Try.prog 16 #[.pointer (some ⟨b, 0, none⟩), .int .i64 n] w = some (.tuple #[.bool false, .int .i64 0, .int .u64 0], w') ∧ Fr [] w w' := by
  obtain ⟨c, nq, pq, es, h, hv⟩ := h
  obtain ⟨w', e, f⟩ := node16 h n
  rw [dif_neg (by omega)] at e
  exact ⟨w', e, f⟩
theorem img_nodeK {w : World} {D : Nat → Prop} {b : Nat} {m : IM} (h : Img w D b m) {k : Nat} (hk : k < m.ns.length) : ∃ w', callF Try.prog 16 #[.pointer (some ⟨b, 0, none⟩), .int .i64 (k : Int)] w = some (.tuple #[.bool m.ns[k].al, .int .i64 m.ns[k].cm, .int .u64 m.ns[k].bk], w') ∧ Fr [] w w' := by
  obtain ⟨c, nq, pq, es, h, hv⟩ := h
  obtain ⟨w', e, f⟩ := node16 h (k : Int)
  rw [dif_pos ⟨by omega, by omega⟩] at e
  exact ⟨w', e, f⟩
theorem img_part0 {w : World} {D : Nat → Prop} {b : Nat} {m : IM} (h : Img w D b m) {k : Int} (hk : k < 0 ∨ (m.vs.length : Int) ≤ k) :
    ∃ w', callF Try.prog 15 #[.pointer (some ⟨b, 0, none⟩), .int .i64 k] w = some (.tuple #[pv0.arg nl nl nl, .bool false], w') ∧ Fr [] w w' := by
  obtain ⟨c, nq, pq, es, h, hv⟩ := h
  have : m.vs.length = es.length := by rw [← hv]; simp
  obtain ⟨w', e, f⟩ := part15_no h (k := k) (by omega)
  exact ⟨w', e, f⟩
end Go.Proofs.Ytjcenfgmpbeldaa

namespace Go.Proofs.Ytjcenfgmpbeldaa
open Go Go.Ev
set_option maxRecDepth 100000
set_option linter.unusedVariables false
set_option linter.unusedSimpArgs false

theorem minus_succ {k : Nat} (h : (k : Int) < 1000000000) : IntKind.i64.wrap ((k : Int) - 1 + 1) = ((k + 1 : Nat) : Int) - 1 := by
  rw [wrap_i64 (by omega) (by omega)]; omega

theorem one_get {w : World} {e : TypeId} {q : Sh} {α : Type} {f : α → Value} {l : List α} (h : Own w e 1 q (l.map f)) {k : Nat} (hk : k < l.length) : ∃ a, idxA q.1 q.2.1 1 (k : Int) = some a ∧ w.cell? a = some (f l[k]) := by
  obtain ⟨a, i, c⟩ := h.slC.get (i := k) (by simpa using hk)
  exact ⟨a, i, by rw [c]; simp⟩

/-- an image is the document's -/
theorem same22 {w : World} {D E : Nat → Prop} {b p : Nat} {m : IM} (h : Img w D b m) (hR : Ref w E p m) (hnx : 0 ≤ m.next ∧ m.next ≤ 1001) (hnl : m.ns.length ≤ 1000) (hvl : m.vs.length ≤ 1000) (hlen : ∀ v ∈ m.vs, v.isr.length ≤ 1000000000 ∧ v.rep.length ≤ 1000000000 ∧ v.tgt.length ≤ 1000000000) :
    ∃ w', callF Try.prog 22 #[.pointer (some ⟨b, 0, none⟩), .pointer (some ⟨p, 0, none⟩)] w = some (.bool true, w') ∧ Fr [] w w' := by
  obtain ⟨qa, qc, qb, qp, es, R⟩ := hR
  obtain ⟨c, nq, pq, fs, h0, hv0⟩ := h
  have hI : Img w D b m := ⟨c, nq, pq, fs, h0, hv0⟩
  have hfl : fs.length = m.vs.length := by rw [← hv0]; simp
  have hel : es.length = m.vs.length := by rw [← R.vs]; simp
  obtain ⟨w1, e1, f1⟩ := counts23 h0
  obtain ⟨w2, e2, f2⟩ := pids20 (h0.fr f1 (by simp)) hnx
  have F2 : Fr [] w w2 := (Fr.mono (Fr.app f1 f2) (by have z0_ := Fr.size f1; have z1_ := Fr.size f2; intro y_ hy_ hl_; grind [blkOf]))
  have R2 := R.fr F2 (by simp)
  have I2 := hI.fr F2 (by simp)
  have c0 : w2.cell? ⟨p, 0, none⟩ = some (.slice qa.1 qa.2.1 qa.2.2) := R2.blk.cell 0
  have c3 : w2.cell? ⟨p, 3, none⟩ = some (.slice qp.1 qp.2.1 qp.2.2) := R2.blk.cell 3
  have c4 : w2.cell? ⟨p, 4, none⟩ = some (.int .u64 m.next) := R2.blk.cell 4
  have c5 : w2.cell? ⟨p, 5, none⟩ = some (.int .i64 m.count) := R2.blk.cell 5
  have hal := R.oa.len
  have hcl := R.oc.len
  have hbl := R.ob.len
  have hpl := R.op.len
  simp only [List.length_map, Nat.mul_one] at hal hcl hbl
  rw [ptCs_len] at hpl
  have k0 : ((m.ns.length : Int) != (qa.2.1 : Int)) = false := by simp; omega
  have k1 : ((fs.length : Int) != (qp.2.1 : Int)) = false := by simp; omega
  have nn : ∀ n : Int, (n != n) = false := fun n => by simp
  have hwu : IntKind.u64.wrap (1001 - m.next) = 1001 - m.next := wrap_u64 (by omega) (by omega)
  -- the nodes
  obtain ⟨t, w3, g3, rfl, F3⟩ := loopS_countX 0 (b := g22_l27_b (m.ns.length : Int) (some ⟨b, 0, none⟩) (some ⟨p, 0, none⟩) (fs.length : Int)) (n := m.ns.length + 2)
    (I := fun k s x => s = (false, (k : Int) - 1) ∧ Fr [] w2 x)
    (fun k s x hk ⟨hs, hF⟩ => by
      subst hs
      have kw := minus_succ (k := k) (by omega)
      have kle : decide (((k : Int) - 1) ≤ (m.ns.length : Int)) = true := by simp; omega
      by_cases hz : k = 0 ∨ k = m.ns.length + 1
      · obtain ⟨x1, ex, fx⟩ := img_node0 (I2.fr hF (by simp)) (n := (k : Int) - 1) (by omega)
        refine ⟨_, x1, ?_, rfl, (Fr.mono (Fr.app hF fx) (by have z0_ := Fr.size hF; have z1_ := Fr.size fx; intro y_ hy_ hl_; grind [blkOf]))⟩
        unfold g22_l27_b
        have n00 : ((0 : Int) != 0) = false := rfl
        by_cases hlt : (k : Int) - 1 < 0
        · have k2 : decide ((k : Int) - 1 < 0) = true := by simp only [hlt, decide_true]
          simp only [kle, ex, k2, n00, kw, obs, asP_pointer, asB_bool, asI_int, asS_string, asSl_slice, asM_map, asTup0, asTup1, asTup2, asTup3, asTup4, asTup5, asTup6, asTup7, asTup8, asTup9, asAgg2, asAgg3, asAgg4, asAgg5, asAgg6, asAgg7, asAgg8, asAgg9, asAgg12, getD0, getD1, getD2, getD3, getD4, getD5, getD6, getD7, getD8, getD9, getD10, getD11, getD12, getD13, getD14, getD15, getD16, getD17, getD18, getD19, Bool.not_true, Bool.not_false, Bool.false_eq_true, Bool.true_eq_false, ↓reduceIte, decide_true, decide_false, Option.isNone_some, Option.isNone_none, Option.isSome_some, Option.isSome_none, beq_self_eq_true, bne_self_eq_false, Bool.and_true, Bool.true_and, Bool.and_false, Bool.false_and, not_true_eq_false, not_false_eq_true]
        · have k2 : decide ((k : Int) - 1 < 0) = false := by simp only [hlt, decide_false]
          have k3 : ((k : Int) - 1 == (m.ns.length : Int)) = true := by simp; omega
          simp only [kle, ex, k2, k3, n00, kw, obs, asP_pointer, asB_bool, asI_int, asS_string, asSl_slice, asM_map, asTup0, asTup1, asTup2, asTup3, asTup4, asTup5, asTup6, asTup7, asTup8, asTup9, asAgg2, asAgg3, asAgg4, asAgg5, asAgg6, asAgg7, asAgg8, asAgg9, asAgg12, getD0, getD1, getD2, getD3, getD4, getD5, getD6, getD7, getD8, getD9, getD10, getD11, getD12, getD13, getD14, getD15, getD16, getD17, getD18, getD19, Bool.not_true, Bool.not_false, Bool.false_eq_true, Bool.true_eq_false, ↓reduceIte, decide_true, decide_false, Option.isNone_some, Option.isNone_none, Option.isSome_some, Option.isSome_none, beq_self_eq_true, bne_self_eq_false, Bool.and_true, Bool.true_and, Bool.and_false, Bool.false_and, not_true_eq_false, not_false_eq_true]
      · obtain ⟨j, rfl⟩ : ∃ j, k = j + 1 := ⟨k - 1, by omega⟩
        have hj : j < m.ns.length := by omega
        have ej : (((j + 1 : Nat) : Int)) - 1 = (j : Int) := by omega
        rw [ej] at kw kle ⊢
        obtain ⟨x1, ex, fx⟩ := img_nodeK (I2.fr hF (by simp)) hj
        have F1 : Fr [] w2 x1 := (Fr.mono (Fr.app hF fx) (by have z0_ := Fr.size hF; have z1_ := Fr.size fx; intro y_ hy_ hl_; grind [blkOf]))
        have Rx := R2.fr F1 (by simp)
        have d0 : x1.cell? ⟨p, 0, none⟩ = some (.slice qa.1 qa.2.1 qa.2.2) := Rx.blk.cell 0
        have d1 : x1.cell? ⟨p, 1, none⟩ = some (.slice qc.1 qc.2.1 qc.2.2) := Rx.blk.cell 1
        have d2 : x1.cell? ⟨p, 2, none⟩ = some (.slice qb.1 qb.2.1 qb.2.2) := Rx.blk.cell 2
        obtain ⟨a0, i0, r0⟩ := one_get Rx.oa hj
        obtain ⟨a1, i1, r1⟩ := one_get Rx.oc hj
        obtain ⟨a2, i2, r2⟩ := one_get Rx.ob hj
        have k2 : decide ((j : Int) < 0) = false := by simp
        have k3 : ((j : Int) == (m.ns.length : Int)) = false := by simp; omega
        have kb : ∀ b : Bool, (b == b) = true := fun b => by simp
        refine ⟨_, x1, ?_, rfl, F1⟩
        unfold g22_l27_b
        simp only [kle, ex, k2, k3, d0, i0, r0, kb, addr_add, Nat.zero_add, d1, i1, r1, nn, d2, i2, r2, kw, obs, asP_pointer, asB_bool, asI_int, asS_string, asSl_slice, asM_map, asTup0, asTup1, asTup2, asTup3, asTup4, asTup5, asTup6, asTup7, asTup8, asTup9, asAgg2, asAgg3, asAgg4, asAgg5, asAgg6, asAgg7, asAgg8, asAgg9, asAgg12, getD0, getD1, getD2, getD3, getD4, getD5, getD6, getD7, getD8, getD9, getD10, getD11, getD12, getD13, getD14, getD15, getD16, getD17, getD18, getD19, Bool.not_true, Bool.not_false, Bool.false_eq_true, Bool.true_eq_false, ↓reduceIte, decide_true, decide_false, Option.isNone_some, Option.isNone_none, Option.isSome_some, Option.isSome_none, beq_self_eq_true, bne_self_eq_false, Bool.and_true, Bool.true_and, Bool.and_false, Bool.false_and, not_true_eq_false, not_false_eq_true])
    (fun s x ⟨hs, _⟩ => by
      subst hs
      unfold g22_l27_b
      have kle : decide ((((m.ns.length + 2 : Nat) : Int)) - 1 ≤ (m.ns.length : Int)) = false := by simp; omega
      simp only [kle, Bool.false_eq_true, if_false]) (k := 0) (s := (false, -1)) (w := w2) (Nat.zero_le _) ⟨rfl, Fr.refl _ _⟩
  have I3 := I2.fr F3 (by simp)
  have R3 := R2.fr F3 (by simp)
  -- the partitions
  obtain ⟨t, w4, g4, rfl, F4⟩ := loopS_countX 2 (b := g22_l58_b (fs.length : Int) (some ⟨b, 0, none⟩) (some ⟨p, 0, none⟩)) (n := m.vs.length + 2)
    (I := fun k s x => s = (false, (k : Int) - 1) ∧ Fr [] w3 x)
    (fun k s x hk ⟨hs, hF⟩ => by
      subst hs
      have kw := minus_succ (k := k) (by omega)
      have kle : decide (((k : Int) - 1) ≤ (fs.length : Int)) = true := by simp; omega
      have ff : (false == false) = true := rfl
      have tt : (true == true) = true := rfl
      by_cases hz : k = 0 ∨ k = m.vs.length + 1
      · obtain ⟨x1, ex, fx⟩ := img_part0 (I3.fr hF (by simp)) (k := (k : Int) - 1) (by omega)
        obtain ⟨x2, s2, b2, f2, l2⟩ := newP x1 pv0 nl nl nl
        have fd := Fr.drew [] x2
        have Fx : Fr [] x x2.drew := (Fr.mono (Fr.app (Fr.app fx f2) fd) (by have z0_ := Fr.size fx; have z1_ := Fr.size f2; have z2_ := Fr.size fd; intro y_ hy_ hl_; grind [blkOf]))
        have bd := b2.fr fd (by simp)
        have d3 : x2.drew.cell? ⟨x1.heap.size, 3, none⟩ = some (.slice none 0 0) := bd.cell 3
        have d4 : x2.drew.cell? ⟨x1.heap.size, 4, none⟩ = some (.slice none 0 0) := bd.cell 4
        have z95 : ∀ r61 s59, loopS (g22_l95_b (none, 0, 0) r61 (some ⟨b, 0, none⟩) (some ⟨p, 0, none⟩) s59 (fs.length : Int)) 0 x2.drew = some (.exit 4, 0, x2.drew) := fun r61 s59 => loopS_out (by simp) (by unfold g22_l95_b; rfl)
        have z112 : ∀ r61 s59, loopS (g22_l112_b (none, 0, 0) r61 (some ⟨b, 0, none⟩) (some ⟨p, 0, none⟩) s59 (fs.length : Int)) 0 x2.drew = some (.exit 6, 0, x2.drew) := fun r61 s59 => loopS_out (by simp) (by unfold g22_l112_b; rfl)
        simp only [PV.arg, pv0, nl] at ex
        simp only [pv0, nl] at s2
        refine ⟨_, x2.drew, ?_, rfl, (Fr.mono (Fr.app hF Fx) (by have z0_ := Fr.size hF; have z1_ := Fr.size Fx; intro y_ hy_ hl_; grind [blkOf]))⟩
        unfold g22_l58_b
        by_cases hlt : (k : Int) - 1 < 0
        · have k2 : decide ((k : Int) - 1 ≥ 0) = false := by simp; omega
          have z199 := z95
          rw [← b199] at z199
          have z213 := z112
          rw [← b213] at z213
          simp only [kle, ex, s2, k2, ff, addr_add, Nat.zero_add, d3, obs, asP_pointer, asB_bool, asI_int, asS_string, asSl_slice, asM_map, asTup0, asTup1, asTup2, asTup3, asTup4, asTup5, asTup6, asTup7, asTup8, asTup9, asAgg2, asAgg3, asAgg4, asAgg5, asAgg6, asAgg7, asAgg8, asAgg9, asAgg12, getD0, getD1, getD2, getD3, getD4, getD5, getD6, getD7, getD8, getD9, getD10, getD11, getD12, getD13, getD14, getD15, getD16, getD17, getD18, getD19, Bool.not_true, Bool.not_false, Bool.false_eq_true, Bool.true_eq_false, ↓reduceIte, decide_true, decide_false, Option.isNone_some, Option.isNone_none, Option.isSome_some, Option.isSome_none, beq_self_eq_true, bne_self_eq_false, Bool.and_true, Bool.true_and, Bool.and_false, Bool.false_and, not_true_eq_false, not_false_eq_true]
          rw [g22_l199_x4_of (z199 _ _)]
          unfold g22_l199_x4
          simp only [addr_add, Nat.zero_add, d4, obs, asP_pointer, asB_bool, asI_int, asS_string, asSl_slice, asM_map, asTup0, asTup1, asTup2, asTup3, asTup4, asTup5, asTup6, asTup7, asTup8, asTup9, asAgg2, asAgg3, asAgg4, asAgg5, asAgg6, asAgg7, asAgg8, asAgg9, asAgg12, getD0, getD1, getD2, getD3, getD4, getD5, getD6, getD7, getD8, getD9, getD10, getD11, getD12, getD13, getD14, getD15, getD16, getD17, getD18, getD19, Bool.not_true, Bool.not_false, Bool.false_eq_true, Bool.true_eq_false, ↓reduceIte, decide_true, decide_false, Option.isNone_some, Option.isNone_none, Option.isSome_some, Option.isSome_none, beq_self_eq_true, bne_self_eq_false, Bool.and_true, Bool.true_and, Bool.and_false, Bool.false_and, not_true_eq_false, not_false_eq_true]
          rw [g22_l213_x6_of (z213 _ _)]
          unfold g22_l213_x6
          simp only [kw, obs, asP_pointer, asB_bool, asI_int, asS_string, asSl_slice, asM_map, asTup0, asTup1, asTup2, asTup3, asTup4, asTup5, asTup6, asTup7, asTup8, asTup9, asAgg2, asAgg3, asAgg4, asAgg5, asAgg6, asAgg7, asAgg8, asAgg9, asAgg12, getD0, getD1, getD2, getD3, getD4, getD5, getD6, getD7, getD8, getD9, getD10, getD11, getD12, getD13, getD14, getD15, getD16, getD17, getD18, getD19, Bool.not_true, Bool.not_false, Bool.false_eq_true, Bool.true_eq_false, ↓reduceIte, decide_true, decide_false, Option.isNone_some, Option.isNone_none, Option.isSome_some, Option.isSome_none, beq_self_eq_true, bne_self_eq_false, Bool.and_true, Bool.true_and, Bool.and_false, Bool.false_and, not_true_eq_false, not_false_eq_true]
        · have k2 : decide ((k : Int) - 1 ≥ 0) = true := by simp; omega
          have k3 : decide ((k : Int) - 1 < (fs.length : Int)) = false := by simp; omega
          have z125 := z95
          rw [← b125] at z125
          have z139 := z112
          rw [← b139] at z139
          simp only [kle, ex, s2, k2, k3, ff, addr_add, Nat.zero_add, d3, obs, asP_pointer, asB_bool, asI_int, asS_string, asSl_slice, asM_map, asTup0, asTup1, asTup2, asTup3, asTup4, asTup5, asTup6, asTup7, asTup8, asTup9, asAgg2, asAgg3, asAgg4, asAgg5, asAgg6, asAgg7, asAgg8, asAgg9, asAgg12, getD0, getD1, getD2, getD3, getD4, getD5, getD6, getD7, getD8, getD9, getD10, getD11, getD12, getD13, getD14, getD15, getD16, getD17, getD18, getD19, Bool.not_true, Bool.not_false, Bool.false_eq_true, Bool.true_eq_false, ↓reduceIte, decide_true, decide_false, Option.isNone_some, Option.isNone_none, Option.isSome_some, Option.isSome_none, beq_self_eq_true, bne_self_eq_false, Bool.and_true, Bool.true_and, Bool.and_false, Bool.false_and, not_true_eq_false, not_false_eq_true]
          rw [g22_l125_x4_of (z125 _ _)]
          unfold g22_l125_x4
          simp only [addr_add, Nat.zero_add, d4, obs, asP_pointer, asB_bool, asI_int, asS_string, asSl_slice, asM_map, asTup0, asTup1, asTup2, asTup3, asTup4, asTup5, asTup6, asTup7, asTup8, asTup9, asAgg2, asAgg3, asAgg4, asAgg5, asAgg6, asAgg7, asAgg8, asAgg9, asAgg12, getD0, getD1, getD2, getD3, getD4, getD5, getD6, getD7, getD8, getD9, getD10, getD11, getD12, getD13, getD14, getD15, getD16, getD17, getD18, getD19, Bool.not_true, Bool.not_false, Bool.false_eq_true, Bool.true_eq_false, ↓reduceIte, decide_true, decide_false, Option.isNone_some, Option.isNone_none, Option.isSome_some, Option.isSome_none, beq_self_eq_true, bne_self_eq_false, Bool.and_true, Bool.true_and, Bool.and_false, Bool.false_and, not_true_eq_false, not_false_eq_true]
          rw [g22_l139_x6_of (z139 _ _)]
          unfold g22_l139_x6
          simp only [kw, obs, asP_pointer, asB_bool, asI_int, asS_string, asSl_slice, asM_map, asTup0, asTup1, asTup2, asTup3, asTup4, asTup5, asTup6, asTup7, asTup8, asTup9, asAgg2, asAgg3, asAgg4, asAgg5, asAgg6, asAgg7, asAgg8, asAgg9, asAgg12, getD0, getD1, getD2, getD3, getD4, getD5, getD6, getD7, getD8, getD9, getD10, getD11, getD12, getD13, getD14, getD15, getD16, getD17, getD18, getD19, Bool.not_true, Bool.not_false, Bool.false_eq_true, Bool.true_eq_false, ↓reduceIte, decide_true, decide_false, Option.isNone_some, Option.isNone_none, Option.isSome_some, Option.isSome_none, beq_self_eq_true, bne_self_eq_false, Bool.and_true, Bool.true_and, Bool.and_false, Bool.false_and, not_true_eq_false, not_false_eq_true]
      · obtain ⟨j, rfl⟩ : ∃ j, k = j + 1 := ⟨k - 1, by omega⟩
        have hj : j < m.vs.length := by omega
        have hje : j < es.length := by omega
        have ej : (((j + 1 : Nat) : Int)) - 1 = (j : Int) := by omega
        rw [ej] at kw kle ⊢
        have Ix := I3.fr hF (by simp)
        obtain ⟨c', nq', pq', gs, hx0, hvx⟩ := Ix
        have hgl : j < gs.length := by rw [← hvx] at hj; simpa using hj
        have hgv : gs[j].v = m.vs[j] := by simp [← hvx]
        obtain ⟨qi, qr, qt, x1, ex, fx, oi, or_, ot, nfr, ap1, ap2⟩ := part15 hx0 hgl
        rw [hgv] at ex oi or_ ot
        obtain ⟨v, hv⟩ : ∃ v, m.vs[j] = v := ⟨_, rfl⟩
        have hlv := hlen m.vs[j] (List.getElem_mem hj)
        rw [hv] at ex oi or_ ot hlv
        obtain ⟨x2, s2, b2, f2, l2⟩ := newP x1 v qi qr qt
        have fd := Fr.drew [] x2
        have F12 : Fr [] x1 x2.drew := (Fr.mono (Fr.app f2 fd) (by have z0_ := Fr.size f2; have z1_ := Fr.size fd; intro y_ hy_ hl_; grind [blkOf]))
        have Fx : Fr [] x x2.drew := (Fr.mono (Fr.app fx F12) (by have z0_ := Fr.size fx; have z1_ := Fr.size F12; intro y_ hy_ hl_; grind [blkOf]))
        have bd := b2.fr fd (by simp)
        have ld := bd.ldN (n := 6) rfl
        simp only [PV.cs] at ld
        have FW : Fr [] w3 x2.drew := (Fr.mono (Fr.app hF Fx) (by have z0_ := Fr.size hF; have z1_ := Fr.size Fx; intro y_ hy_ hl_; grind [blkOf]))
        have Rx := R3.fr FW (by simp)
        have d3 : x2.drew.cell? ⟨p, 3, none⟩ = some (.slice qp.1 qp.2.1 qp.2.2) := Rx.blk.cell 3
        have hev : es[j].v = v := by rw [← hv]; simp [← R.vs]
        have oke := Rx.ok es[j] (List.getElem_mem hje)
        obtain ⟨g, off, qa1, i1, rr, _⟩ := row_at (f := PE.cs) pef_len (by decide) Rx.op (ptCs_len es) hje
        have ld2 : ldN x2.drew ⟨g, off + j * 6, none⟩ 0 6 = some (es[j].cs) := ldN_of_cells (cs := es[j].cs) (i := 0) fun i hi => by
          rw [addr_add, Nat.zero_add, rr i hi, List.getElem?_eq_getElem hi]
        simp only [PE.cs, PV.cs, hev] at ld2
        have oi2 := oi.fr F12 (by simp)
        have or2 := or_.fr F12 (by simp)
        have ot2 := ot.fr F12 (by simp)
        obtain ⟨x3, e43, f3⟩ := samePart43 (v := v) (qi := qi) (qr := qr) (qt := qt) (ri := es[j].qi) (rr := es[j].qr) (rt := es[j].qt) oi2.slI or2.slI ot2.slI (by rw [← hev]; exact oke.oi.slI) (by rw [← hev]; exact oke.or_.slI) (by rw [← hev]; exact oke.ot.slI) hlv
        have bd3 := bd.fr f3 (by simp)
        have d3' : x3.cell? ⟨x1.heap.size, 3, none⟩ = some (.slice qi.1 qi.2.1 qi.2.2) := bd3.cell 3
        have k2 : decide ((j : Int) ≥ 0) = true := by simp
        have k3 : decide ((j : Int) < (fs.length : Int)) = true := by simp; omega
        obtain ⟨t4, x4, h4, f4⟩ := fill95 (r61 := (.tuple #[.agg #[.int .i64 v.ld, .int .i64 v.ep, .int .i64 v.vr, .slice qi.1 qi.2.1 qi.2.2, .slice qr.1 qr.2.1 qr.2.2, .slice qt.1 qt.2.1 qt.2.2], .bool true], x1)) (u0 := some ⟨b, 0, none⟩) (u1 := some ⟨p, 0, none⟩) (s59 := (false, (j : Int))) (n4 := (fs.length : Int)) (oi2.fr f3 (by simp)) hlv.1 bd3 (cs := v.cs qi qr qt) rfl
        have bd4 := bd3.fr f4 (bd3.notin (oi2.fr f3 (by simp)) (by decide))
        have or4 := (or2.fr f3 (by simp)).fr f4 (fun y hy hm => (ap1 y hm).1 hy)
        have d4' : x4.cell? ⟨x1.heap.size, 4, none⟩ = some (.slice qr.1 qr.2.1 qr.2.2) := bd4.cell 4
        obtain ⟨t5, x5, h5, f5⟩ := fill112 (r61 := (.tuple #[.agg #[.int .i64 v.ld, .int .i64 v.ep, .int .i64 v.vr, .slice qi.1 qi.2.1 qi.2.2, .slice qr.1 qr.2.1 qr.2.2, .slice qt.1 qt.2.1 qt.2.2], .bool true], x1)) (u0 := some ⟨b, 0, none⟩) (u1 := some ⟨p, 0, none⟩) (s59 := (false, (j : Int))) (n4 := (fs.length : Int)) or4 hlv.2.1 bd4 (cs := v.cs qi qr qt) rfl
        have FW3 : Fr [] w3 x3 := (Fr.mono (Fr.app FW f3) (by have z0_ := Fr.size FW; have z1_ := Fr.size f3; intro y_ hy_ hl_; grind [blkOf]))
        simp only [PV.arg] at ex e43
        refine ⟨_, x5, ?_, rfl, ((FW3.app f4).app f5).mono (by
          intro y hy hlt
          simp at hy
          have hzx := hF.size
          rcases hy with hy | hy
          · have := nfr y (.inl hy); omega
          · have := nfr y (.inr (.inl hy)); omega)⟩
        unfold g22_l58_b
        simp only [kle, ex, s2, k2, k3, tt, ld, addr_add, Nat.zero_add, d3, i1, ld2, e43, d3', obs, asP_pointer, asB_bool, asI_int, asS_string, asSl_slice, asM_map, asTup0, asTup1, asTup2, asTup3, asTup4, asTup5, asTup6, asTup7, asTup8, asTup9, asAgg2, asAgg3, asAgg4, asAgg5, asAgg6, asAgg7, asAgg8, asAgg9, asAgg12, getD0, getD1, getD2, getD3, getD4, getD5, getD6, getD7, getD8, getD9, getD10, getD11, getD12, getD13, getD14, getD15, getD16, getD17, getD18, getD19, Bool.not_true, Bool.not_false, Bool.false_eq_true, Bool.true_eq_false, ↓reduceIte, decide_true, decide_false, Option.isNone_some, Option.isNone_none, Option.isSome_some, Option.isSome_none, beq_self_eq_true, bne_self_eq_false, Bool.and_true, Bool.true_and, Bool.and_false, Bool.false_and, not_true_eq_false, not_false_eq_true]
        rw [g22_l95_x4_of h4]
        unfold g22_l95_x4
        simp only [addr_add, Nat.zero_add, d4', obs, asP_pointer, asB_bool, asI_int, asS_string, asSl_slice, asM_map, asTup0, asTup1, asTup2, asTup3, asTup4, asTup5, asTup6, asTup7, asTup8, asTup9, asAgg2, asAgg3, asAgg4, asAgg5, asAgg6, asAgg7, asAgg8, asAgg9, asAgg12, getD0, getD1, getD2, getD3, getD4, getD5, getD6, getD7, getD8, getD9, getD10, getD11, getD12, getD13, getD14, getD15, getD16, getD17, getD18, getD19, Bool.not_true, Bool.not_false, Bool.false_eq_true, Bool.true_eq_false, ↓reduceIte, decide_true, decide_false, Option.isNone_some, Option.isNone_none, Option.isSome_some, Option.isSome_none, beq_self_eq_true, bne_self_eq_false, Bool.and_true, Bool.true_and, Bool.and_false, Bool.false_and, not_true_eq_false, not_false_eq_true]
        rw [g22_l112_x6_of h5]
        unfold g22_l112_x6
        simp only [kw, obs, asP_pointer, asB_bool, asI_int, asS_string, asSl_slice, asM_map, asTup0, asTup1, asTup2, asTup3, asTup4, asTup5, asTup6, asTup7, asTup8, asTup9, asAgg2, asAgg3, asAgg4, asAgg5, asAgg6, asAgg7, asAgg8, asAgg9, asAgg12, getD0, getD1, getD2, getD3, getD4, getD5, getD6, getD7, getD8, getD9, getD10, getD11, getD12, getD13, getD14, getD15, getD16, getD17, getD18, getD19, Bool.not_true, Bool.not_false, Bool.false_eq_true, Bool.true_eq_false, ↓reduceIte, decide_true, decide_false, Option.isNone_some, Option.isNone_none, Option.isSome_some, Option.isSome_none, beq_self_eq_true, bne_self_eq_false, Bool.and_true, Bool.true_and, Bool.and_false, Bool.false_and, not_true_eq_false, not_false_eq_true])
    (fun s x ⟨hs, _⟩ => by
      subst hs
      unfold g22_l58_b
      have kle : decide ((((m.vs.length + 2 : Nat) : Int)) - 1 ≤ (fs.length : Int)) = false := by simp; omega
      simp only [kle, Bool.false_eq_true, if_false]) (k := 0) (s := (false, -1)) (w := w3) (Nat.zero_le _) ⟨rfl, Fr.refl _ _⟩
  refine ⟨w4, g22_call ?_, (Fr.mono (Fr.app (Fr.app F2 F3) F4) (by have z0_ := Fr.size F2; have z1_ := Fr.size F3; have z2_ := Fr.size F4; intro y_ hy_ hl_; grind [blkOf]))⟩
  unfold g22
  simp only [e1, e2, c0, k0, addr_add, Nat.zero_add, c3, k1, c5, nn, c4, hwu, obs, asP_pointer, asB_bool, asI_int, asS_string, asSl_slice, asM_map, asTup0, asTup1, asTup2, asTup3, asTup4, asTup5, asTup6, asTup7, asTup8, asTup9, asAgg2, asAgg3, asAgg4, asAgg5, asAgg6, asAgg7, asAgg8, asAgg9, asAgg12, getD0, getD1, getD2, getD3, getD4, getD5, getD6, getD7, getD8, getD9, getD10, getD11, getD12, getD13, getD14, getD15, getD16, getD17, getD18, getD19, Bool.not_true, Bool.not_false, Bool.false_eq_true, Bool.true_eq_false, ↓reduceIte, decide_true, decide_false, Option.isNone_some, Option.isNone_none, Option.isSome_some, Option.isSome_none, beq_self_eq_true, bne_self_eq_false, Bool.and_true, Bool.true_and, Bool.and_false, Bool.false_and, not_true_eq_false, not_false_eq_true]
  rw [g22_l27_x0_of g3]
  unfold g22_l27_x0
  rw [g22_l58_x2_of g4, g22_l58_x2]
end Go.Proofs.Ytjcenfgmpbeldaa

namespace Go.Proofs.Ytjcenfgmpbeldaa
open Go Go.Ev
set_option maxRecDepth 100000
set_option linter.unusedVariables false
set_option linter.unusedSimpArgs false

theorem RefR.up {w : World} {E E' : Nat → Prop} {p : Nat} {qa qc qb qp : Sh} {es : List PE} {m : IM} (h : RefR w E p qa qc qb qp es m) (hE : ∀ y, E y → E' y) (hlt : ∀ y, E' y → y < w.heap.size) : RefR w E' p qa qc qb qp es m :=
  ⟨h.blk, h.oa, h.oc, h.ob, h.op, h.vs, fun e he => (h.ok e he).fr (Fr.refl [] _) (by simp) hE, hE _ h.pe, ⟨fun y hy => hE y (h.reg.1 y hy), fun y hy => hE y (h.reg.2.1 y hy), fun y hy => hE y (h.reg.2.2.1 y hy), fun y hy => hE y (h.reg.2.2.2 y hy)⟩, hlt⟩

theorem PeOk.up {w : World} {E E' : Nat → Prop} {e : PE} (h : PeOk w E e) (hE : ∀ y, E y → E' y) : PeOk w E' e := h.fr (Fr.refl [] _) (by simp) hE

theorem pecs_oc (e : PE) : ∀ u ∈ e.cs, u.oneCell' = true := pvcs_oc e.v e.qi e.qr e.qt

/-! ## the document's beginning -/
end Go.Proofs.Ytjcenfgmpbeldaa

namespace Go.Proofs.Ytjcenfgmpbeldaa
open Go Go.Ev
set_option maxRecDepth 100000
set_option linter.unusedVariables false
set_option linter.unusedSimpArgs false

/-! ## what is read, in plain numbers -/
def rdN {α : Type} (f : RS → α × RS) : Nat → RS → List α × RS
  | 0, s => ([], s)
  | k + 1, s => ((rdN f k s).1 ++ [(f (rdN f k s).2).1], (f (rdN f k s).2).2)
def rdNode (s : RS) : NV × RS := (⟨(flagS s).1, (intS (flagS s).2).1, ((uintS (intS (flagS s).2).2).1 : Int)⟩, (uintS (intS (flagS s).2).2).2)
def rdPart (s : RS) : PV × RS :=
  (⟨(intS s).1, (intS (intS s).2).1, (intS (intS (intS s).2).2).1, (intsS (intS (intS (intS s).2).2).2).1, (intsS (intsS (intS (intS (intS s).2).2).2).2).1, (intsS (intsS (intsS (intS (intS (intS s).2).2).2).2).2).1⟩,
    (intsS (intsS (intsS (intS (intS (intS s).2).2).2).2).2).2)
def capN (m n : Nat) : Nat := if m < n then 0 else n
def rdImg (s : RS) : IM × RS :=
  let n := uintS s
  let ns := rdN rdNode (capN 5 n.1) n.2
  let p := uintS ns.2
  let vs := rdN rdPart (capN 6 p.1) p.2
  let nx := uintS vs.2
  let ct := intS nx.2
  (⟨ns.1, vs.1, (nx.1 : Int), ct.1⟩, ct.2)
def partOk (n : Nat) (v : PV) : Prop := sortedI n v.isr ∧ sortedI n v.rep ∧ (v.tgt = [] ∨ sortedI n v.tgt) ∧ -1 ≤ v.ld ∧ v.ld < (n : Int) ∧ 0 ≤ v.ep ∧ 0 ≤ v.vr
instance (n : Nat) (v : PV) : Decidable (partOk n v) := by unfold partOk; exact inferInstance
def soundI (m : IM) : Prop := m.ns ≠ [] ∧ m.vs ≠ [] ∧ 1 ≤ m.next ∧ m.next ≤ 1001 ∧ 0 ≤ m.count ∧ ∀ v ∈ m.vs, partOk m.ns.length v
open Classical in
noncomputable def decM (bs : List Int) : Option IM × Int := if endS (rdImg ⟨bs, 0, 0⟩).2 ≠ 0 then (none, endS (rdImg ⟨bs, 0, 0⟩).2) else if soundI (rdImg ⟨bs, 0, 0⟩).1 then (some (rdImg ⟨bs, 0, 0⟩).1, 0) else (none, 7)

theorem rdN_len {α : Type} (f : RS → α × RS) (s : RS) : ∀ k, (rdN f k s).1.length = k
  | 0 => rfl
  | k + 1 => by show ((rdN f k s).1 ++ [(f (rdN f k s).2).1]).length = k + 1; rw [List.length_append, rdN_len f s k]; rfl
theorem rdPart_ok {s : RS} (h : s.Ok) : (rdPart s).2.Ok ∧ (rdPart s).1.isr.length ≤ 4096 ∧ (rdPart s).1.rep.length ≤ 4096 ∧ (rdPart s).1.tgt.length ≤ 4096 := by
  have h1 := h.int.2.1
  have h2 := h1.int.2.1
  have h3 := h2.int.2.1
  have h4 := h3.ints
  have h5 := h4.2.1.ints
  have h6 := h5.2.1.ints
  exact ⟨h6.2.1, h4.2.2.2, h5.2.2.2, h6.2.2.2⟩
theorem capN_le (m n : Nat) : capN m n ≤ m := by unfold capN; split <;> omega
section
variable {w : World} {D : Nat → Prop} {b c : Nat} {nq pq : Sh} {ns : List NV} {es : List PE} {next count : Int}

/-- one part of an image is sound -/
theorem sound_round (h : Raw w D b c nq pq ns es next count) {k : Nat} (hk : k < es.length) (hel : es.length ≤ 1000) (hnl : ns.length ≤ 1000) :
    ∃ w', g64_l16_b pq (some ⟨b, 0, none⟩) (false, (k : Int)) w = some (if partOk ns.length es[k].v then (.normal, (false, ((k + 1 : Nat) : Int)), w') else (.ret, (false, (k : Int)), w')) ∧ Fr [] w w' := by
  have hpl := h.plen
  have hnn := h.nlen
  obtain ⟨g, off, qa, i1, rr, _⟩ := row_at (f := PE.cs) pef_len (by decide) h.pt (ptCs_len es) hk
  have ld : ldN w ⟨g, off + k * 6, none⟩ 0 6 = some (es[k].cs) := ldN_of_cells (cs := es[k].cs) (i := 0) fun i hi => by
    rw [addr_add, Nat.zero_add, rr i hi, List.getElem?_eq_getElem hi]
  have ok := h.ok _ (List.getElem_mem hk)
  obtain ⟨e, he⟩ : ∃ e, es[k] = e := ⟨_, rfl⟩
  rw [he] at ld ok ⊢
  simp only [PE.cs, PV.cs] at ld
  obtain ⟨w1, s1, b1, f1, l1⟩ := newP w e.v e.qi e.qr e.qt
  have fd := Fr.drew [] w1
  obtain ⟨w2, hw2⟩ : ∃ w2, w1.drew = w2 := ⟨_, rfl⟩
  rw [hw2] at fd
  have F2 : Fr [] w w2 := (Fr.mono (Fr.app f1 fd) (by have z0_ := Fr.size f1; have z1_ := Fr.size fd; intro y_ hy_ hl_; grind [blkOf]))
  have b2 := b1.fr fd (by simp)
  have h2 := h.fr F2 (by simp)
  have ok2 := ok.fr F2 (by simp) (fun _ => id)
  have c0 : w2.cell? ⟨w.heap.size, 0, none⟩ = some (.int .i64 e.v.ld) := b2.cell 0
  have c1 : w2.cell? ⟨w.heap.size, 1, none⟩ = some (.int .i64 e.v.ep) := b2.cell 1
  have c2 : w2.cell? ⟨w.heap.size, 2, none⟩ = some (.int .i64 e.v.vr) := b2.cell 2
  have c3 : w2.cell? ⟨w.heap.size, 3, none⟩ = some (.slice e.qi.1 e.qi.2.1 e.qi.2.2) := b2.cell 3
  have c4 : w2.cell? ⟨w.heap.size, 4, none⟩ = some (.slice e.qr.1 e.qr.2.1 e.qr.2.2) := b2.cell 4
  have c5 : w2.cell? ⟨w.heap.size, 5, none⟩ = some (.slice e.qt.1 e.qt.2.1 e.qt.2.2) := b2.cell 5
  have n0 : w2.cell? ⟨b, 0, none⟩ = some (.slice nq.1 nq.2.1 nq.2.2) := h2.tbl.cell 0
  have hlen := ok.len
  have hqt := ok2.ot.len
  simp only [intsV', List.length_map, Nat.mul_one] at hqt
  have e1 := sorted75 h2 ok2.oi.slI (by omega)
  have e2 := sorted75 h2 ok2.or_.slI (by omega)
  have e3 := sorted75 h2 ok2.ot.slI (by omega)
  have k0 : decide ((k : Int) < (pq.2.1 : Int)) = true := by simp; omega
  have kw := wrap_succ (n := k) (by omega)
  refine ⟨w2, ?_, F2⟩
  by_cases p1 : sortedI ns.length e.v.isr
  case neg =>
    have q1 : decide (sortedI ns.length e.v.isr) = false := decide_eq_false p1
    rw [if_neg (fun hh => p1 hh.1)]
    unfold g64_l16_b
    simp only [k0, i1, ld, s1, hw2, addr_add, Nat.zero_add, c3, e1, q1, obs, asP_pointer, asB_bool, asI_int, asS_string, asSl_slice, asM_map, asTup0, asTup1, asTup2, asTup3, asTup4, asTup5, asTup6, asTup7, asTup8, asTup9, asAgg2, asAgg3, asAgg4, asAgg5, asAgg6, asAgg7, asAgg8, asAgg9, asAgg12, getD0, getD1, getD2, getD3, getD4, getD5, getD6, getD7, getD8, getD9, getD10, getD11, getD12, getD13, getD14, getD15, getD16, getD17, getD18, getD19, Bool.not_true, Bool.not_false, Bool.false_eq_true, Bool.true_eq_false, ↓reduceIte, decide_true, decide_false, Option.isNone_some, Option.isNone_none, Option.isSome_some, Option.isSome_none, beq_self_eq_true, bne_self_eq_false, Bool.and_true, Bool.true_and, Bool.and_false, Bool.false_and, not_true_eq_false, not_false_eq_true]
  have q1 : decide (sortedI ns.length e.v.isr) = true := decide_eq_true p1
  by_cases p2 : sortedI ns.length e.v.rep
  case neg =>
    have q2 : decide (sortedI ns.length e.v.rep) = false := decide_eq_false p2
    rw [if_neg (fun hh => p2 hh.2.1)]
    unfold g64_l16_b
    simp only [k0, i1, ld, s1, hw2, addr_add, Nat.zero_add, c3, e1, q1, c4, e2, q2, obs, asP_pointer, asB_bool, asI_int, asS_string, asSl_slice, asM_map, asTup0, asTup1, asTup2, asTup3, asTup4, asTup5, asTup6, asTup7, asTup8, asTup9, asAgg2, asAgg3, asAgg4, asAgg5, asAgg6, asAgg7, asAgg8, asAgg9, asAgg12, getD0, getD1, getD2, getD3, getD4, getD5, getD6, getD7, getD8, getD9, getD10, getD11, getD12, getD13, getD14, getD15, getD16, getD17, getD18, getD19, Bool.not_true, Bool.not_false, Bool.false_eq_true, Bool.true_eq_false, ↓reduceIte, decide_true, decide_false, Option.isNone_some, Option.isNone_none, Option.isSome_some, Option.isSome_none, beq_self_eq_true, bne_self_eq_false, Bool.and_true, Bool.true_and, Bool.and_false, Bool.false_and, not_true_eq_false, not_false_eq_true]
  have q2 : decide (sortedI ns.length e.v.rep) = true := decide_eq_true p2
  have fin : (e.v.tgt = [] ∨ sortedI ns.length e.v.tgt) → g64_l16_b pq (some ⟨b, 0, none⟩) (false, (k : Int)) w = some (if partOk ns.length e.v then (.normal, (false, ((k + 1 : Nat) : Int)), w2) else (.ret, (false, (k : Int)), w2)) := by
    intro pt
    have base : ∀ r, (if decide (e.v.ld < -1) = true then some (Exit.ret, (false, (k : Int)), w2) else if decide (e.v.ld ≥ (nq.2.1 : Int)) = true then some (Exit.ret, (false, (k : Int)), w2) else if decide (e.v.ep < 0) = true then some (Exit.ret, (false, (k : Int)), w2) else if decide (e.v.vr < 0) = true then some (Exit.ret, (false, (k : Int)), w2) else some (Exit.normal, (false, ((k + 1 : Nat) : Int)), w2)) = some r → g64_l16_b pq (some ⟨b, 0, none⟩) (false, (k : Int)) w = some r := by
      intro r hr
      unfold g64_l16_b
      by_cases ht : e.v.tgt = []
      · have kt : decide ((e.qt.2.1 : Int) > 0) = false := by rw [ht] at hqt; simp at hqt ⊢; omega
        simp only [k0, i1, ld, s1, hw2, addr_add, Nat.zero_add, c3, e1, q1, c4, e2, q2, c5, kt, c0, n0, c1, c2, kw, obs, asP_pointer, asB_bool, asI_int, asS_string, asSl_slice, asM_map, asTup0, asTup1, asTup2, asTup3, asTup4, asTup5, asTup6, asTup7, asTup8, asTup9, asAgg2, asAgg3, asAgg4, asAgg5, asAgg6, asAgg7, asAgg8, asAgg9, asAgg12, getD0, getD1, getD2, getD3, getD4, getD5, getD6, getD7, getD8, getD9, getD10, getD11, getD12, getD13, getD14, getD15, getD16, getD17, getD18, getD19, Bool.not_true, Bool.not_false, Bool.false_eq_true, Bool.true_eq_false, ↓reduceIte, decide_true, decide_false, Option.isNone_some, Option.isNone_none, Option.isSome_some, Option.isSome_none, beq_self_eq_true, bne_self_eq_false, Bool.and_true, Bool.true_and, Bool.and_false, Bool.false_and, not_true_eq_false, not_false_eq_true]
        exact hr
      · have kt : decide ((e.qt.2.1 : Int) > 0) = true := by have := List.length_pos_iff.mpr ht; simp; omega
        have p3 : sortedI ns.length e.v.tgt := by rcases pt with hh | hh; exact absurd hh ht; exact hh
        have q3 : decide (sortedI ns.length e.v.tgt) = true := decide_eq_true p3
        simp only [k0, i1, ld, s1, hw2, addr_add, Nat.zero_add, c3, e1, q1, c4, e2, q2, c5, kt, e3, q3, c0, n0, c1, c2, kw, obs, asP_pointer, asB_bool, asI_int, asS_string, asSl_slice, asM_map, asTup0, asTup1, asTup2, asTup3, asTup4, asTup5, asTup6, asTup7, asTup8, asTup9, asAgg2, asAgg3, asAgg4, asAgg5, asAgg6, asAgg7, asAgg8, asAgg9, asAgg12, getD0, getD1, getD2, getD3, getD4, getD5, getD6, getD7, getD8, getD9, getD10, getD11, getD12, getD13, getD14, getD15, getD16, getD17, getD18, getD19, Bool.not_true, Bool.not_false, Bool.false_eq_true, Bool.true_eq_false, ↓reduceIte, decide_true, decide_false, Option.isNone_some, Option.isNone_none, Option.isSome_some, Option.isSome_none, beq_self_eq_true, bne_self_eq_false, Bool.and_true, Bool.true_and, Bool.and_false, Bool.false_and, not_true_eq_false, not_false_eq_true]
        exact hr
    refine base _ ?_
    by_cases a1 : e.v.ld < -1
    · rw [if_neg (show ¬ partOk ns.length e.v from fun hh => by have := hh.2.2.2.1; omega), if_pos (by simp [a1])]
    by_cases a2 : e.v.ld ≥ (nq.2.1 : Int)
    · rw [if_neg (show ¬ partOk ns.length e.v from fun hh => by have := hh.2.2.2.2.1; omega), if_neg (by simp; omega), if_pos (by simp; omega)]
    by_cases a3 : e.v.ep < 0
    · rw [if_neg (show ¬ partOk ns.length e.v from fun hh => by have := hh.2.2.2.2.2.1; omega), if_neg (by simp; omega), if_neg (by simp; omega), if_pos (by simp [a3])]
    by_cases a4 : e.v.vr < 0
    · rw [if_neg (show ¬ partOk ns.length e.v from fun hh => by have := hh.2.2.2.2.2.2; omega), if_neg (by simp; omega), if_neg (by simp; omega), if_neg (by simp; omega), if_pos (by simp [a4])]
    rw [if_pos (show partOk ns.length e.v from ⟨p1, p2, pt, by omega, by omega, by omega, by omega⟩), if_neg (by simp; omega), if_neg (by simp; omega), if_neg (by simp; omega), if_neg (by simp; omega)]
  by_cases ht : e.v.tgt = []
  · exact fin (.inl ht)
  by_cases p3 : sortedI ns.length e.v.tgt
  · exact fin (.inr p3)
  have kt : decide ((e.qt.2.1 : Int) > 0) = true := by have := List.length_pos_iff.mpr ht; simp; omega
  have q3 : decide (sortedI ns.length e.v.tgt) = false := decide_eq_false p3
  rw [if_neg (fun hh => by rcases hh.2.2.1 with hx | hx; exact ht hx; exact p3 hx)]
  unfold g64_l16_b
  simp only [k0, i1, ld, s1, hw2, addr_add, Nat.zero_add, c3, e1, q1, c4, e2, q2, c5, kt, e3, q3, obs, asP_pointer, asB_bool, asI_int, asS_string, asSl_slice, asM_map, asTup0, asTup1, asTup2, asTup3, asTup4, asTup5, asTup6, asTup7, asTup8, asTup9, asAgg2, asAgg3, asAgg4, asAgg5, asAgg6, asAgg7, asAgg8, asAgg9, asAgg12, getD0, getD1, getD2, getD3, getD4, getD5, getD6, getD7, getD8, getD9, getD10, getD11, getD12, getD13, getD14, getD15, getD16, getD17, getD18, getD19, Bool.not_true, Bool.not_false, Bool.false_eq_true, Bool.true_eq_false, ↓reduceIte, decide_true, decide_false, Option.isNone_some, Option.isNone_none, Option.isSome_some, Option.isSome_none, beq_self_eq_true, bne_self_eq_false, Bool.and_true, Bool.true_and, Bool.and_false, Bool.false_and, not_true_eq_false, not_false_eq_true]

open Classical in
theorem sound64 (h : Raw w D b c nq pq ns es next count) (n : Int) (hn0 : 0 ≤ n) (hel : es.length ≤ 1000) (hnl : ns.length ≤ 1000) :
    ∃ w', callF Try.prog 64 #[.pointer (some ⟨b, 0, none⟩), .int .u64 n] w = some (.bool (decide (soundI ⟨ns, es.map (·.v), n, count⟩)), w') ∧ Fr [] w w' := by
  have hpl := h.plen
  have hnn := h.nlen
  have c0 : w.cell? ⟨b, 0, none⟩ = some (.slice nq.1 nq.2.1 nq.2.2) := h.tbl.cell 0
  have c1 : w.cell? ⟨b, 1, none⟩ = some (.slice pq.1 pq.2.1 pq.2.2) := h.tbl.cell 1
  have c3 : w.cell? ⟨b, 3, none⟩ = some (.int .i64 count) := h.tbl.cell 3
  have no : ∀ w', ¬ soundI ⟨ns, es.map (·.v), n, count⟩ → callF Try.prog 64 #[.pointer (some ⟨b, 0, none⟩), .int .u64 n] w = some (.bool false, w') → Fr [] w w' → ∃ w', callF Try.prog 64 #[.pointer (some ⟨b, 0, none⟩), .int .u64 n] w = some (.bool (decide (soundI ⟨ns, es.map (·.v), n, count⟩)), w') ∧ Fr [] w w' := by
    intro w' hs e f
    exact ⟨w', by rw [decide_eq_false hs]; exact e, f⟩
  by_cases a1 : ns = []
  · have k : ((nq.2.1 : Int) == 0) = true := by rw [a1] at hnn; simp at hnn ⊢; omega
    exact no w (fun hh => hh.1 a1) (g64_call (by unfold g64; simp only [c0, k, obs, asP_pointer, asB_bool, asI_int, asS_string, asSl_slice, asM_map, asTup0, asTup1, asTup2, asTup3, asTup4, asTup5, asTup6, asTup7, asTup8, asTup9, asAgg2, asAgg3, asAgg4, asAgg5, asAgg6, asAgg7, asAgg8, asAgg9, asAgg12, getD0, getD1, getD2, getD3, getD4, getD5, getD6, getD7, getD8, getD9, getD10, getD11, getD12, getD13, getD14, getD15, getD16, getD17, getD18, getD19, Bool.not_true, Bool.not_false, Bool.false_eq_true, Bool.true_eq_false, ↓reduceIte, decide_true, decide_false, Option.isNone_some, Option.isNone_none, Option.isSome_some, Option.isSome_none, beq_self_eq_true, bne_self_eq_false, Bool.and_true, Bool.true_and, Bool.and_false, Bool.false_and, not_true_eq_false, not_false_eq_true])) (Fr.refl _ _)
  have k1 : ((nq.2.1 : Int) == 0) = false := by have := List.length_pos_iff.mpr a1; simp; omega
  by_cases a2 : es = []
  · have k : ((pq.2.1 : Int) == 0) = true := by rw [a2] at hpl; simp at hpl ⊢; omega
    exact no w (fun hh => hh.2.1 (by rw [a2]; rfl)) (g64_call (by unfold g64; simp only [c0, k1, addr_add, Nat.zero_add, c1, k, obs, asP_pointer, asB_bool, asI_int, asS_string, asSl_slice, asM_map, asTup0, asTup1, asTup2, asTup3, asTup4, asTup5, asTup6, asTup7, asTup8, asTup9, asAgg2, asAgg3, asAgg4, asAgg5, asAgg6, asAgg7, asAgg8, asAgg9, asAgg12, getD0, getD1, getD2, getD3, getD4, getD5, getD6, getD7, getD8, getD9, getD10, getD11, getD12, getD13, getD14, getD15, getD16, getD17, getD18, getD19, Bool.not_true, Bool.not_false, Bool.false_eq_true, Bool.true_eq_false, ↓reduceIte, decide_true, decide_false, Option.isNone_some, Option.isNone_none, Option.isSome_some, Option.isSome_none, beq_self_eq_true, bne_self_eq_false, Bool.and_true, Bool.true_and, Bool.and_false, Bool.false_and, not_true_eq_false, not_false_eq_true])) (Fr.refl _ _)
  have k2 : ((pq.2.1 : Int) == 0) = false := by have := List.length_pos_iff.mpr a2; simp; omega
  by_cases a3 : n < 1
  · have k : decide (n < 1) = true := by simp only [a3, decide_true]
    exact no w (fun hh => by have : 1 ≤ n := hh.2.2.1; omega) (g64_call (by unfold g64; simp only [c0, k1, addr_add, Nat.zero_add, c1, k2, k, obs, asP_pointer, asB_bool, asI_int, asS_string, asSl_slice, asM_map, asTup0, asTup1, asTup2, asTup3, asTup4, asTup5, asTup6, asTup7, asTup8, asTup9, asAgg2, asAgg3, asAgg4, asAgg5, asAgg6, asAgg7, asAgg8, asAgg9, asAgg12, getD0, getD1, getD2, getD3, getD4, getD5, getD6, getD7, getD8, getD9, getD10, getD11, getD12, getD13, getD14, getD15, getD16, getD17, getD18, getD19, Bool.not_true, Bool.not_false, Bool.false_eq_true, Bool.true_eq_false, ↓reduceIte, decide_true, decide_false, Option.isNone_some, Option.isNone_none, Option.isSome_some, Option.isSome_none, beq_self_eq_true, bne_self_eq_false, Bool.and_true, Bool.true_and, Bool.and_false, Bool.false_and, not_true_eq_false, not_false_eq_true])) (Fr.refl _ _)
  have k3 : decide (n < 1) = false := by simp only [a3, decide_false]
  by_cases a4 : n > 1001
  · have k : decide (n > 1001) = true := by simp only [a4, decide_true]
    exact no w (fun hh => by have : n ≤ 1001 := hh.2.2.2.1; omega) (g64_call (by unfold g64; simp only [c0, k1, addr_add, Nat.zero_add, c1, k2, k3, k, obs, asP_pointer, asB_bool, asI_int, asS_string, asSl_slice, asM_map, asTup0, asTup1, asTup2, asTup3, asTup4, asTup5, asTup6, asTup7, asTup8, asTup9, asAgg2, asAgg3, asAgg4, asAgg5, asAgg6, asAgg7, asAgg8, asAgg9, asAgg12, getD0, getD1, getD2, getD3, getD4, getD5, getD6, getD7, getD8, getD9, getD10, getD11, getD12, getD13, getD14, getD15, getD16, getD17, getD18, getD19, Bool.not_true, Bool.not_false, Bool.false_eq_true, Bool.true_eq_false, ↓reduceIte, decide_true, decide_false, Option.isNone_some, Option.isNone_none, Option.isSome_some, Option.isSome_none, beq_self_eq_true, bne_self_eq_false, Bool.and_true, Bool.true_and, Bool.and_false, Bool.false_and, not_true_eq_false, not_false_eq_true])) (Fr.refl _ _)
  have k4 : decide (n > 1001) = false := by simp only [a4, decide_false]
  by_cases a5 : count < 0
  · have k : decide (count < 0) = true := by simp only [a5, decide_true]
    exact no w (fun hh => by have : 0 ≤ count := hh.2.2.2.2.1; omega) (g64_call (by unfold g64; simp only [c0, k1, addr_add, Nat.zero_add, c1, k2, k3, k4, c3, k, obs, asP_pointer, asB_bool, asI_int, asS_string, asSl_slice, asM_map, asTup0, asTup1, asTup2, asTup3, asTup4, asTup5, asTup6, asTup7, asTup8, asTup9, asAgg2, asAgg3, asAgg4, asAgg5, asAgg6, asAgg7, asAgg8, asAgg9, asAgg12, getD0, getD1, getD2, getD3, getD4, getD5, getD6, getD7, getD8, getD9, getD10, getD11, getD12, getD13, getD14, getD15, getD16, getD17, getD18, getD19, Bool.not_true, Bool.not_false, Bool.false_eq_true, Bool.true_eq_false, ↓reduceIte, decide_true, decide_false, Option.isNone_some, Option.isNone_none, Option.isSome_some, Option.isSome_none, beq_self_eq_true, bne_self_eq_false, Bool.and_true, Bool.true_and, Bool.and_false, Bool.false_and, not_true_eq_false, not_false_eq_true])) (Fr.refl _ _)
  have k5 : decide (count < 0) = false := by simp only [a5, decide_false]
  obtain ⟨e, t, w', g1, hF, hQ⟩ := loopS_rule (b := g64_l16_b pq (some ⟨b, 0, none⟩)) (n := es.length) (I := fun k s x => s = (false, (k : Int)) ∧ Fr [] w x ∧ ∀ i (hi : i < es.length), i < k → partOk ns.length es[i].v)
    (Q := fun e s x => Fr [] w x ∧ (e = .ret ∧ s.1 = false ∧ ¬ (∀ v ∈ es.map (·.v), partOk ns.length v) ∨ e = .exit 0 ∧ ∀ v ∈ es.map (·.v), partOk ns.length v))
    (fun k s x hk ⟨hs, hF, hok⟩ => by
      subst hs
      obtain ⟨x', e, f⟩ := sound_round (h.fr hF (by simp)) hk hel hnl
      by_cases hp : partOk ns.length es[k].v
      · rw [if_pos hp] at e
        refine ⟨_, _, x', e, .inl ⟨rfl, rfl, (Fr.mono (Fr.app hF f) (by have z0_ := Fr.size hF; have z1_ := Fr.size f; intro y_ hy_ hl_; grind [blkOf])), fun i hi hik => ?_⟩⟩
        by_cases hik' : i = k
        · subst hik'; exact hp
        · exact hok i hi (by omega)
      · rw [if_neg hp] at e
        exact ⟨_, _, x', e, .inr ⟨by simp, (Fr.mono (Fr.app hF f) (by have z0_ := Fr.size hF; have z1_ := Fr.size f; intro y_ hy_ hl_; grind [blkOf])), .inl ⟨rfl, rfl, fun hh => hp (hh _ (List.mem_map.mpr ⟨_, List.getElem_mem hk, rfl⟩))⟩⟩⟩)
    (fun s x ⟨hs, hF, hok⟩ => by
      subst hs
      refine ⟨.exit 0, (false, (es.length : Int)), x, ?_, by simp, hF, .inr ⟨rfl, fun v hv => ?_⟩⟩
      · have kk : decide ((es.length : Int) < (pq.2.1 : Int)) = false := by simp; omega
        unfold g64_l16_b
        simp only [kk, Bool.false_eq_true, if_false]
      · obtain ⟨e, he, rfl⟩ := List.mem_map.mp hv
        obtain ⟨i, hi, rfl⟩ := List.getElem_of_mem he
        exact hok i hi hi) (k := 0) (s := (false, 0)) (w := w) (Nat.zero_le _) ⟨rfl, Fr.refl _ _, fun i hi h0 => absurd h0 (by omega)⟩
  rcases hQ with ⟨rfl, hs, hno⟩ | ⟨rfl, hall⟩
  · refine no w' (fun hh => hno hh.2.2.2.2.2) (g64_call ?_) hF
    unfold g64
    simp only [c0, k1, addr_add, Nat.zero_add, c1, k2, k3, k4, c3, k5, obs, asP_pointer, asB_bool, asI_int, asS_string, asSl_slice, asM_map, asTup0, asTup1, asTup2, asTup3, asTup4, asTup5, asTup6, asTup7, asTup8, asTup9, asAgg2, asAgg3, asAgg4, asAgg5, asAgg6, asAgg7, asAgg8, asAgg9, asAgg12, getD0, getD1, getD2, getD3, getD4, getD5, getD6, getD7, getD8, getD9, getD10, getD11, getD12, getD13, getD14, getD15, getD16, getD17, getD18, getD19, Bool.not_true, Bool.not_false, Bool.false_eq_true, Bool.true_eq_false, ↓reduceIte, decide_true, decide_false, Option.isNone_some, Option.isNone_none, Option.isSome_some, Option.isSome_none, beq_self_eq_true, bne_self_eq_false, Bool.and_true, Bool.true_and, Bool.and_false, Bool.false_and, not_true_eq_false, not_false_eq_true]
    rw [g64_l16_ret_of g1, g64_l16_ret, hs]
  · have hs : soundI ⟨ns, es.map (·.v), n, count⟩ := ⟨a1, by simpa using a2, by show 1 ≤ n; omega, by show n ≤ 1001; omega, by show 0 ≤ count; omega, hall⟩
    refine ⟨w', ?_, hF⟩
    rw [decide_eq_true hs]
    refine g64_call ?_
    unfold g64
    simp only [c0, k1, addr_add, Nat.zero_add, c1, k2, k3, k4, c3, k5, obs, asP_pointer, asB_bool, asI_int, asS_string, asSl_slice, asM_map, asTup0, asTup1, asTup2, asTup3, asTup4, asTup5, asTup6, asTup7, asTup8, asTup9, asAgg2, asAgg3, asAgg4, asAgg5, asAgg6, asAgg7, asAgg8, asAgg9, asAgg12, getD0, getD1, getD2, getD3, getD4, getD5, getD6, getD7, getD8, getD9, getD10, getD11, getD12, getD13, getD14, getD15, getD16, getD17, getD18, getD19, Bool.not_true, Bool.not_false, Bool.false_eq_true, Bool.true_eq_false, ↓reduceIte, decide_true, decide_false, Option.isNone_some, Option.isNone_none, Option.isSome_some, Option.isSome_none, beq_self_eq_true, bne_self_eq_false, Bool.and_true, Bool.true_and, Bool.and_false, Bool.false_and, not_true_eq_false, not_false_eq_true]
    rw [g64_l16_x0_of g1, g64_l16_x0]
end
end Go.Proofs.Ytjcenfgmpbeldaa

namespace Go.Proofs.Ytjcenfgmpbeldaa
open Go Go.Ev
set_option maxRecDepth 100000
set_option linter.unusedVariables false
set_option linter.unusedSimpArgs false

theorem g32_parts (u0 : Option Addr × Nat × Nat) (w0 : World) : g32 u0 w0 = ((callF Try.prog 55 #[.slice u0.1 u0.2.1 u0.2.2] w0).bind fun r1 =>
  (asP r1.1).bind fun p2 =>
  (callF Try.prog 62 #[.pointer p2] (World.alloc r1.2 (.cells #[.slice none 0 0, .slice none 0 0, .pointer none, .int .i64 0] 79))).bind fun r3 =>
  (asI .u64 r3.1).bind fun n4 =>
  if (decide ((n4 : Int) ≥ 1)) = true then
  (if (decide ((n4 : Int) ≤ 5)) = true then g32_l5 p2 r1 n4 0 r3.2 else g32_l5_x0 p2 r1 0 r3.2) else g32_l5_x0 p2 r1 0 r3.2) := by kernel_rfl
theorem x0_parts (p2 : Option Addr) (r1 : Value × World) (t42 : Int) (w43 : World) : g32_l5_x0 p2 r1 t42 w43 = ((callF Try.prog 62 #[.pointer p2] w43).bind fun r44 =>
  (asI .u64 r44.1).bind fun n45 =>
  if (decide ((n45 : Int) ≥ 1)) = true then
  (if (decide ((n45 : Int) ≤ 6)) = true then g32_l46 p2 r1 n45 0 r44.2 else g32_l46_x2 p2 r1 0 r44.2) else g32_l46_x2 p2 r1 0 r44.2) := by kernel_rfl

theorem t74 : TSl Try.prog 74 85 3 24 := tsl_of Try.underlying74 (by kernel_rfl)

/-- the image under way -/
structure Bld (w : World) (b : Nat) (nq pq : Sh) (ns : List NV) (es : List PE) (pc : Value) (count : Int) : Prop where
  tbl : Blk w b [.slice nq.1 nq.2.1 nq.2.2, .slice pq.1 pq.2.1 pq.2.2, pc, .int .i64 count] 79
  nd : Own w 85 3 nq (ndCs ns)
  pt : Own w 30 6 pq (ptCs es)
  ok : ∀ e ∈ es, PeOk w (fun y => b ≤ y) e
  rn : ∀ y ∈ blkOf nq, b ≤ y
  rp : ∀ y ∈ blkOf pq, b ≤ y

section
variable {w : World} {b : Nat} {nq pq : Sh} {ns : List NV} {es : List PE} {pc : Value} {count : Int}
theorem Bld.fr {w' : World} {S : List Nat} (h : Bld w b nq pq ns es pc count) (hf : Fr S w w') (hS : ∀ y ∈ S, y < b) : Bld w' b nq pq ns es pc count :=
  ⟨h.tbl.fr hf (fun hm => by have := hS b hm; omega), h.nd.fr hf (fun y hy hm => by have := hS y hm; have := h.rn y hy; omega), h.pt.fr hf (fun y hy hm => by have := hS y hm; have := h.rp y hy; omega),
    fun e he => (h.ok e he).fr hf (fun y hy => ⟨fun hm => by have := hS y hy; have := (h.ok e he).reg.1 y hm; omega, fun hm => by have := hS y hy; have := (h.ok e he).reg.2.1 y hm; omega, fun hm => by have := hS y hy; have := (h.ok e he).reg.2.2 y hm; omega⟩) (fun _ => id), h.rn, h.rp⟩

theorem nvcs_oc (v : NV) : ∀ u ∈ v.cs, u.oneCell' = true := by
  intro u hu
  simp only [NV.cs, List.mem_cons, List.not_mem_nil, or_false] at hu
  rcases hu with rfl | rfl | rfl <;> rfl

/-- one node more -/
theorem Bld.pushN (h : Bld w b nq pq ns es pc count) (v : NV) (hl : ns.length ≤ 1000) :
    ∃ nq' w1 w2, callB Try.prog .append #[74, 74] 74 #[false, false] #[.slice nq.1 nq.2.1 nq.2.2, .slice (some ⟨w.heap.size, 0, none⟩) 1 1] (w.alloc (.cells #[.bool v.al, .int .i64 v.cm, .int .u64 v.bk] 85)) = some (.slice nq'.1 nq'.2.1 nq'.2.2, w1) ∧
      st1 w1 ⟨b, 0, none⟩ (.slice nq'.1 nq'.2.1 nq'.2.2) = some w2 ∧ Bld w2 b nq' pq (ns ++ [v]) es pc count ∧ Fr (b :: blkOf nq) w w2 := by
  have hml : maxLen = 9223372036854775807 := by decide
  have hpl := h.nd.len
  rw [ndCs_len] at hpl
  obtain ⟨nq', w1, e1, o1, f1, n1, l1⟩ := app_one t74 (w := w) h.nd (ys := v.cs) rfl (nvcs_oc v) (by omega) (by omega) 74 #[false, false]
  have hpn := h.tbl.notin h.nd (by decide)
  have b1 := h.tbl.fr f1 hpn
  have s2 : st1 w1 ⟨b, 0, none⟩ (.slice nq'.1 nq'.2.1 nq'.2.2) = some (w1.setCell ⟨b, 0, none⟩ (.slice nq'.1 nq'.2.1 nq'.2.2)) := b1.st1 (by simp) rfl
  have b2 := b1.set 0 (.slice nq'.1 nq'.2.1 nq'.2.2)
  have f2 : Fr [b] w1 (w1.setCell ⟨b, 0, none⟩ (.slice nq'.1 nq'.2.1 nq'.2.2)) := Fr.setCell
  obtain ⟨w2, hw2⟩ : ∃ w2, w1.setCell ⟨b, 0, none⟩ (.slice nq'.1 nq'.2.1 nq'.2.2) = w2 := ⟨_, rfl⟩
  rw [hw2] at s2 b2 f2
  have F : Fr (b :: blkOf nq) w w2 := (f1.app f2).mono (by intro y hy _; simp at hy ⊢; rcases hy with hy | hy; exact .inr hy; exact .inl hy)
  have hbl := h.tbl.lt
  have apE : ∀ {t : TypeId} {q : Sh} {n : Nat} {xs : List Value}, Own w t n q xs → t ≠ 85 → t ≠ 79 → ∀ y ∈ blkOf q, y ∉ (b :: blkOf nq) := by
    intro t q n xs ho h1 h2 y hy hm
    rcases List.mem_cons.mp hm with rfl | hm
    · exact h.tbl.notin ho h2.symm hy
    · exact ho.apart h.nd h1 y hy hm
  have hp2 : b ∉ blkOf nq' := fun hm => by
    rcases n1 b hm with hh | hh
    · exact hpn hh
    · omega
  refine ⟨nq', w1, w2, e1, s2, ⟨b2, ?_, h.pt.fr F (apE h.pt (by decide) (by decide)), fun e he => ?_, fun y hy => ?_, h.rp⟩, F⟩
  · have : ndCs (ns ++ [v]) = ndCs ns ++ v.cs := by unfold ndCs; simp
    rw [this]
    exact o1.fr f2 (fun y hy hm => by simp at hm; subst hm; exact hp2 hy)
  · have ok := h.ok e he
    exact ok.fr F (fun y hy => ⟨fun hm => apE ok.oi (by decide) (by decide) y hm hy, fun hm => apE ok.or_ (by decide) (by decide) y hm hy, fun hm => apE ok.ot (by decide) (by decide) y hm hy⟩) (fun _ => id)
  · rcases n1 y hy with hh | hh
    · exact h.rn y hh
    · omega

/-- one part more -/
theorem Bld.pushP (h : Bld w b nq pq ns es pc count) (e : PE) (ok : PeOk w (fun y => b ≤ y) e) (hl : es.length ≤ 1000) :
    ∃ pq' w1 w2, callB Try.prog .append #[77, 77] 77 #[false, false] #[.slice pq.1 pq.2.1 pq.2.2, .slice (some ⟨w.heap.size, 0, none⟩) 1 1] (w.alloc (.cells #[.int .i64 e.v.ld, .int .i64 e.v.ep, .int .i64 e.v.vr, .slice e.qi.1 e.qi.2.1 e.qi.2.2, .slice e.qr.1 e.qr.2.1 e.qr.2.2, .slice e.qt.1 e.qt.2.1 e.qt.2.2] 30)) = some (.slice pq'.1 pq'.2.1 pq'.2.2, w1) ∧
      st1 w1 ⟨b, 1, none⟩ (.slice pq'.1 pq'.2.1 pq'.2.2) = some w2 ∧ Bld w2 b nq pq' ns (es ++ [e]) pc count ∧ Fr (b :: blkOf pq) w w2 := by
  have hml : maxLen = 9223372036854775807 := by decide
  have hpl := h.pt.len
  rw [ptCs_len] at hpl
  obtain ⟨pq', w1, e1, o1, f1, n1, l1⟩ := app_one t77 (w := w) h.pt (ys := e.cs) rfl (pecs_oc e) (by omega) (by omega) 77 #[false, false]
  have hpn := h.tbl.notin h.pt (by decide)
  have b1 := h.tbl.fr f1 hpn
  have s2 : st1 w1 ⟨b, 1, none⟩ (.slice pq'.1 pq'.2.1 pq'.2.2) = some (w1.setCell ⟨b, 1, none⟩ (.slice pq'.1 pq'.2.1 pq'.2.2)) := b1.st1 (by simp) rfl
  have b2 := b1.set 1 (.slice pq'.1 pq'.2.1 pq'.2.2)
  have f2 : Fr [b] w1 (w1.setCell ⟨b, 1, none⟩ (.slice pq'.1 pq'.2.1 pq'.2.2)) := Fr.setCell
  obtain ⟨w2, hw2⟩ : ∃ w2, w1.setCell ⟨b, 1, none⟩ (.slice pq'.1 pq'.2.1 pq'.2.2) = w2 := ⟨_, rfl⟩
  rw [hw2] at s2 b2 f2
  have F : Fr (b :: blkOf pq) w w2 := (f1.app f2).mono (by intro y hy _; simp at hy ⊢; rcases hy with hy | hy; exact .inr hy; exact .inl hy)
  have hbl := h.tbl.lt
  have apE : ∀ {t : TypeId} {q : Sh} {n : Nat} {xs : List Value}, Own w t n q xs → t ≠ 30 → t ≠ 79 → ∀ y ∈ blkOf q, y ∉ (b :: blkOf pq) := by
    intro t q n xs ho h1 h2 y hy hm
    rcases List.mem_cons.mp hm with rfl | hm
    · exact h.tbl.notin ho h2.symm hy
    · exact ho.apart h.pt h1 y hy hm
  have peE : ∀ {e : PE}, PeOk w (fun y => b ≤ y) e → PeOk w2 (fun y => b ≤ y) e := by
    intro e ok
    exact ok.fr F (fun y hy => ⟨fun hm => apE ok.oi (by decide) (by decide) y hm hy, fun hm => apE ok.or_ (by decide) (by decide) y hm hy, fun hm => apE ok.ot (by decide) (by decide) y hm hy⟩) (fun _ => id)
  have hp2 : b ∉ blkOf pq' := fun hm => by
    rcases n1 b hm with hh | hh
    · exact hpn hh
    · omega
  refine ⟨pq', w1, w2, e1, s2, ⟨b2, h.nd.fr F (apE h.nd (by decide) (by decide)), ?_, fun e' he' => ?_, h.rn, fun y hy => ?_⟩, F⟩
  · have : ptCs (es ++ [e]) = ptCs es ++ e.cs := by unfold ptCs; simp
    rw [this]
    exact o1.fr f2 (fun y hy hm => by simp at hm; subst hm; exact hp2 hy)
  · rcases List.mem_append.mp he' with he' | he'
    · exact peE (h.ok e' he')
    · simp at he'; subst he'; exact peE ok
  · rcases n1 y hy with hh | hh
    · exact h.rp y hh
    · omega
end

/-- the image under way, and the reader -/
structure RB (W w : World) (p : Nat) (q : ShT) (s : RS) (nq pq : Sh) (ns : List NV) (es : List PE) (pc : Value) (count : Int) : Prop where
  bld : Bld w W.heap.size nq pq ns es pc count
  rd : Rdr 134 w p q s
  fr : Fr [p] W w
  pl : p < W.heap.size
  ql : 0 < q.2.1 → ∀ y ∈ blkOf q, y < W.heap.size

section
variable {W w : World} {p : Nat} {q : ShT} {s : RS} {nq pq : Sh} {ns : List NV} {es : List PE} {pc : Value} {count : Int}
theorem RB.step (h : RB W w p q s nq pq ns es pc count) {w' : World} {s' : RS} (r : Rdr 134 w' p q s') (f : Fr [p] w w') : RB W w' p q s' nq pq ns es pc count :=
  ⟨h.bld.fr f (by intro y hy; simp at hy; subst hy; exact h.pl), r, fr1 h.fr f, h.pl, h.ql⟩
theorem RB.aside (h : RB W w p q s nq pq ns es pc count) {w' : World} (f : Fr [] w w') : RB W w' p q s nq pq ns es pc count :=
  h.step (h.rd.fr f (by simp) (by simp)) (f.mono (by simp))
theorem RB.build {S : List Nat} (h : RB W w p q s nq pq ns es pc count) {w' : World} {nq' pq' : Sh} {ns' : List NV} {es' : List PE} {pc' : Value} {count' : Int} (b : Bld w' W.heap.size nq' pq' ns' es' pc' count') (f : Fr S w w') (hS : ∀ y ∈ S, W.heap.size ≤ y) : RB W w' p q s nq' pq' ns' es' pc' count' :=
  ⟨b, h.rd.fr f (fun hm => by have := hS p hm; have := h.pl; omega) (fun h0 y hy hm => by have := hS y hm; have := h.ql h0 y hy; omega),
    (h.fr.app f).mono (by intro y hy hlt; simp at hy ⊢; rcases hy with hy | hy; exact hy; have := hS y hy; omega), h.pl, h.ql⟩

theorem newN (x : World) (v : NV) : ∃ x', stL (x.alloc (.cells #[.bool false, .int .i64 0, .int .u64 0] 85)) ⟨x.heap.size, 0, none⟩ [.bool v.al, .int .i64 v.cm, .int .u64 v.bk] 0 = some x' ∧
    Fr [] x x' ∧ ldN x'.drew ⟨x.heap.size, 0, none⟩ 0 3 = some [.bool v.al, .int .i64 v.cm, .int .u64 v.bk] := by
  have b : Blk (x.alloc (.cells #[.bool false, .int .i64 0, .int .u64 0] 85)) x.heap.size [.bool false, .int .i64 0, .int .u64 0] 85 := Blk.new x _ 85
  have f : Fr [] x (x.alloc (.cells #[.bool false, .int .i64 0, .int .u64 0] 85)) := Fr.alloc _
  obtain ⟨x', h1, h2, h3⟩ := b.stL (vs := v.cs) rfl (nvcs_oc v)
  have h4 := h2.fr (Fr.drew [] x') (by simp)
  exact ⟨x', h1, (f.app h3).mono (by intro y hy hl; simp at hy; omega), h4.ldN (n := 3) rfl⟩

theorem join28 {w14 : World} (h : RB W w14.drew p q s nq pq ns es pc count) (v : NV) (hl : ns.length ≤ 1000) {v1 : Value} {k : Nat} (hk : k ≤ 5) (r12 : Value × World) (n4 : Int) (b9 : Bool) (n11 n13 : Int) :
    ∃ nq' w', g32_j28 w14 v.al v.cm v.bk (some ⟨p, 0, none⟩) (v1, W) r12 n4 (k : Int) b9 n11 n13 nq = some (.normal, ((k + 1 : Nat) : Int), w') ∧ RB W w' p q s nq' pq (ns ++ [v]) es pc count := by
  obtain ⟨nq', w1, w2, e1, s1, B, F⟩ := h.bld.pushN v hl
  refine ⟨nq', w2, ?_, h.build B F (by intro y hy; simp at hy; rcases hy with rfl | hy; exact Nat.le_refl _; exact h.bld.rn y hy)⟩
  have kw : IntKind.u64.wrap ((k : Int) + 1) = ((k + 1 : Nat) : Int) := by rw [wrap_u64 (by omega) (by omega)]; push_cast; rfl
  unfold g32_j28
  simp only [e1, s1, kw, obs, asP_pointer, asB_bool, asI_int, asS_string, asSl_slice, asM_map, asTup0, asTup1, asTup2, asTup3, asTup4, asTup5, asTup6, asTup7, asTup8, asTup9, asAgg2, asAgg3, asAgg4, asAgg5, asAgg6, asAgg7, asAgg8, asAgg9, asAgg12, getD0, getD1, getD2, getD3, getD4, getD5, getD6, getD7, getD8, getD9, getD10, getD11, getD12, getD13, getD14, getD15, getD16, getD17, getD18, getD19, Bool.not_true, Bool.not_false, Bool.false_eq_true, Bool.true_eq_false, ↓reduceIte, decide_true, decide_false, Option.isNone_some, Option.isNone_none, Option.isSome_some, Option.isSome_none, beq_self_eq_true, bne_self_eq_false, Bool.and_true, Bool.true_and, Bool.and_false, Bool.false_and, not_true_eq_false, not_false_eq_true]

/-- one node is read -/
theorem node_round (h : RB W w p q s nq pq ns es pc count) {v1 : Value} {k n : Nat} (hk : k < n) (hn : n ≤ 5) (hl : ns.length ≤ 1000) :
    ∃ nq' w', g32_l5_b (n : Int) (some ⟨p, 0, none⟩) (v1, W) (k : Int) w = some (.normal, ((k + 1 : Nat) : Int), w') ∧ RB W w' p q (rdNode s).2 nq' pq (ns ++ [(rdNode s).1]) es pc count := by
  obtain ⟨w1, e1, R1, f1⟩ := flag60 h.rd
  have h1 := h.step R1 f1
  obtain ⟨w2, e2, R2, f2⟩ := int57 R1
  have h2 := h1.step R2 f2
  obtain ⟨w3, e3, R3, f3⟩ := uint58 R2
  have h3 := h2.step R3 f3
  obtain ⟨v, hv⟩ : ∃ v, (rdNode s).1 = v := ⟨_, rfl⟩
  have hva : (flagS s).1 = v.al := by rw [← hv]; rfl
  have hvc : (intS (flagS s).2).1 = v.cm := by rw [← hv]; rfl
  have hvb : ((uintS (intS (flagS s).2).2).1 : Int) = v.bk := by rw [← hv]; rfl
  have hvs : (uintS (intS (flagS s).2).2).2 = (rdNode s).2 := rfl
  rw [hva] at e1
  rw [hvc] at e2
  rw [hvb] at e3
  rw [hvs] at h3
  obtain ⟨w4, s4, f4, l4⟩ := newN w3 v
  have h4 := (h3.aside f4).aside (Fr.drew [] w4)
  have h5 := h4.aside (Fr.alloc (.cells #[.bool v.al, .int .i64 v.cm, .int .u64 v.bk] 85))
  have c4 : w4.drew.cell? ⟨W.heap.size, 0, none⟩ = some (.slice nq.1 nq.2.1 nq.2.2) := h4.bld.tbl.cell 0
  have c5 : (w4.drew.alloc (.cells #[.bool v.al, .int .i64 v.cm, .int .u64 v.bk] 85)).cell? ⟨W.heap.size, 0, none⟩ = some (.slice nq.1 nq.2.1 nq.2.2) := h5.bld.tbl.cell 0
  have k0 : decide ((k : Int) < (n : Int)) = true := by simp; omega
  obtain ⟨nq', w', ej, hj⟩ := join28 h4 v hl (v1 := v1) (k := k) (by omega) (.int .u64 v.bk, w3) n v.al v.cm v.bk
  rw [hv]
  refine ⟨nq', w', ?_, hj⟩
  unfold g32_l5_b
  simp only [k0, e1, e2, e3, s4, l4, c4, c5, obs, asP_pointer, asB_bool, asI_int, asS_string, asSl_slice, asM_map, asTup0, asTup1, asTup2, asTup3, asTup4, asTup5, asTup6, asTup7, asTup8, asTup9, asAgg2, asAgg3, asAgg4, asAgg5, asAgg6, asAgg7, asAgg8, asAgg9, asAgg12, getD0, getD1, getD2, getD3, getD4, getD5, getD6, getD7, getD8, getD9, getD10, getD11, getD12, getD13, getD14, getD15, getD16, getD17, getD18, getD19, Bool.not_true, Bool.not_false, Bool.false_eq_true, Bool.true_eq_false, ↓reduceIte, decide_true, decide_false, Option.isNone_some, Option.isNone_none, Option.isSome_some, Option.isSome_none, beq_self_eq_true, bne_self_eq_false, Bool.and_true, Bool.true_and, Bool.and_false, Bool.false_and, not_true_eq_false, not_false_eq_true]
  rw [ite_self]
  exact ej

theorem join144 {w1 : World} (h : RB W w1 p q s nq pq ns es pc count) (e : PE) (ok : PeOk w1 (fun y => W.heap.size ≤ y) e) (hl : es.length ≤ 1000) {v1 : Value} {k : Nat} (hk : k ≤ 6) (n : Int) (w0 : World) :
    ∃ pq' w', g32_j144 (some ⟨p, 0, none⟩) (v1, W) n (k : Int) w0 pq e.v.ld e.v.ep e.v.vr e.qi e.qr e.qt w1 = some (.normal, ((k + 1 : Nat) : Int), w') ∧ RB W w' p q s nq pq' ns (es ++ [e]) pc count := by
  obtain ⟨pq', x1, x2, e1, s1, B, F⟩ := h.bld.pushP e ok hl
  refine ⟨pq', x2, ?_, h.build B F (by intro y hy; simp at hy; rcases hy with rfl | hy; exact Nat.le_refl _; exact h.bld.rp y hy)⟩
  have kw : IntKind.u64.wrap ((k : Int) + 1) = ((k + 1 : Nat) : Int) := by rw [wrap_u64 (by omega) (by omega)]; push_cast; rfl
  unfold g32_j144
  simp only [addr_add, Nat.zero_add, e1, s1, kw, obs, asP_pointer, asB_bool, asI_int, asS_string, asSl_slice, asM_map, asTup0, asTup1, asTup2, asTup3, asTup4, asTup5, asTup6, asTup7, asTup8, asTup9, asAgg2, asAgg3, asAgg4, asAgg5, asAgg6, asAgg7, asAgg8, asAgg9, asAgg12, getD0, getD1, getD2, getD3, getD4, getD5, getD6, getD7, getD8, getD9, getD10, getD11, getD12, getD13, getD14, getD15, getD16, getD17, getD18, getD19, Bool.not_true, Bool.not_false, Bool.false_eq_true, Bool.true_eq_false, ↓reduceIte, decide_true, decide_false, Option.isNone_some, Option.isNone_none, Option.isSome_some, Option.isSome_none, beq_self_eq_true, bne_self_eq_false, Bool.and_true, Bool.true_and, Bool.and_false, Bool.false_and, not_true_eq_false, not_false_eq_true]

/-- a list that was read lies in new cells -/
theorem RB.ints (h : RB W w p q s nq pq ns es pc count) : ∃ v w', callF Try.prog 57 #[.pointer (some ⟨p, 0, none⟩)] w = some (.slice v.1 v.2.1 v.2.2, w') ∧ RB W w' p q (intsS s).2 nq pq ns es pc count ∧ Own w' 3 1 v (intsV' (intsS s).1) ∧ (∀ y ∈ blkOf v, W.heap.size ≤ y) ∧ Fr [p] w w' := by
  obtain ⟨v, w', e, o, R, f, n⟩ := ints59 h.rd
  exact ⟨v, w', e, h.step R f, o, fun y hy => by have := n y hy; have := h.fr.size; omega, f⟩
theorem RB.int (h : RB W w p q s nq pq ns es pc count) : ∃ w', callF Try.prog 56 #[.pointer (some ⟨p, 0, none⟩)] w = some (.int .i64 (intS s).1, w') ∧ RB W w' p q (intS s).2 nq pq ns es pc count ∧ Fr [p] w w' := by
  obtain ⟨w', e, R, f⟩ := int57 h.rd
  exact ⟨w', e, h.step R f, f⟩
theorem RB.uint (h : RB W w p q s nq pq ns es pc count) : ∃ w', callF Try.prog 62 #[.pointer (some ⟨p, 0, none⟩)] w = some (.int .u64 ((uintS s).1 : Int), w') ∧ RB W w' p q (uintS s).2 nq pq ns es pc count ∧ Fr [p] w w' := by
  obtain ⟨w', e, R, f⟩ := uint58 h.rd
  exact ⟨w', e, h.step R f, f⟩
theorem RB.c1 (h : RB W w p q s nq pq ns es pc count) : w.cell? ⟨W.heap.size, 1, none⟩ = some (.slice pq.1 pq.2.1 pq.2.2) := h.bld.tbl.cell 1

/-- one part is read -/
theorem part_round (h : RB W w p q s nq pq ns es pc count) {v1 : Value} {k n : Nat} (hk : k < n) (hn : n ≤ 6) (hl : es.length ≤ 1000) :
    ∃ pq' e w', g32_l46_b (n : Int) (v1, W) (some ⟨p, 0, none⟩) (k : Int) w = some (.normal, ((k + 1 : Nat) : Int), w') ∧ RB W w' p q (rdPart s).2 nq pq' ns (es ++ [e]) pc count ∧ e.v = (rdPart s).1 := by
  have h0 := h.aside (Fr.drew [] w)
  obtain ⟨w1, e1, h1, f1⟩ := h0.int
  obtain ⟨w2, e2, h2, f2⟩ := h1.int
  obtain ⟨w3, e3, h3, f3⟩ := h2.int
  obtain ⟨q4, w4, e4, h4, o4, n4, f4⟩ := h3.ints
  obtain ⟨q5, w5, e5, h5, o5, n5, f5⟩ := h4.ints
  obtain ⟨q6, w6, e6, h6, o6, n6, f6⟩ := h5.ints
  obtain ⟨hrd, hlen⟩ := rdPart_ok h.rd.ok
  obtain ⟨v, hv⟩ : ∃ v, (rdPart s).1 = v := ⟨_, rfl⟩
  rw [hv] at hlen
  have v1e : (intS s).1 = v.ld := by rw [← hv]; rfl
  have v2e : (intS (intS s).2).1 = v.ep := by rw [← hv]; rfl
  have v3e : (intS (intS (intS s).2).2).1 = v.vr := by rw [← hv]; rfl
  have v4e : (intsS (intS (intS (intS s).2).2).2).1 = v.isr := by rw [← hv]; rfl
  have v5e : (intsS (intsS (intS (intS (intS s).2).2).2).2).1 = v.rep := by rw [← hv]; rfl
  have v6e : (intsS (intsS (intsS (intS (intS (intS s).2).2).2).2).2).1 = v.tgt := by rw [← hv]; rfl
  have vse : (intsS (intsS (intsS (intS (intS (intS s).2).2).2).2).2).2 = (rdPart s).2 := rfl
  rw [v1e] at e1
  rw [v2e] at e2
  rw [v3e] at e3
  rw [v4e] at o4
  rw [v5e] at o5
  rw [v6e] at o6
  rw [vse] at h6
  have nb : ∀ {qq : Sh}, (∀ y ∈ blkOf qq, W.heap.size ≤ y) → ∀ y ∈ blkOf qq, y ∉ [p] := fun hn y hy hm => by
    simp at hm; subst hm; have := hn _ hy; have := h.pl; omega
  have ok6 : PeOk w6 (fun y => W.heap.size ≤ y) ⟨v, q4, q5, q6⟩ := ⟨(o4.fr f5 (nb n4)).fr f6 (nb n4), o5.fr f6 (nb n5), o6, ⟨n4, n5, n6⟩, by show v.isr.length ≤ _ ∧ v.rep.length ≤ _ ∧ v.tgt.length ≤ _; omega⟩
  have fA : Fr [] w6 (w6.alloc (.cells #[.int .i64 v.ld, .int .i64 v.ep, .int .i64 v.vr, .slice q4.1 q4.2.1 q4.2.2, .slice q5.1 q5.2.1 q5.2.2, .slice q6.1 q6.2.1 q6.2.2] 30)) := Fr.alloc _
  have hA := h6.aside fA
  obtain ⟨pq', w', ej, hj⟩ := join144 h6 ⟨v, q4, q5, q6⟩ ok6 hl (v1 := v1) (k := k) (by omega) n w
  refine ⟨pq', ⟨v, q4, q5, q6⟩, w', ?_, hj, hv.symm⟩
  have k0 : decide ((k : Int) < (n : Int)) = true := by simp; omega
  have j132 : g32_j132 (some ⟨p, 0, none⟩) (v1, W) n (k : Int) w pq v.ld v.ep v.vr q4 q5 q6 w6 = some (.normal, ((k + 1 : Nat) : Int), w') := ej
  have j117 : g32_j117 (some ⟨p, 0, none⟩) (v1, W) n (k : Int) w pq v.ld v.ep v.vr q4 q5 w5 = some (.normal, ((k + 1 : Nat) : Int), w') := by
    unfold g32_j117; simp only [e6, obs, asP_pointer, asB_bool, asI_int, asS_string, asSl_slice, asM_map, asTup0, asTup1, asTup2, asTup3, asTup4, asTup5, asTup6, asTup7, asTup8, asTup9, asAgg2, asAgg3, asAgg4, asAgg5, asAgg6, asAgg7, asAgg8, asAgg9, asAgg12, getD0, getD1, getD2, getD3, getD4, getD5, getD6, getD7, getD8, getD9, getD10, getD11, getD12, getD13, getD14, getD15, getD16, getD17, getD18, getD19, Bool.not_true, Bool.not_false, Bool.false_eq_true, Bool.true_eq_false, ↓reduceIte, decide_true, decide_false, Option.isNone_some, Option.isNone_none, Option.isSome_some, Option.isSome_none, beq_self_eq_true, bne_self_eq_false, Bool.and_true, Bool.true_and, Bool.and_false, Bool.false_and, not_true_eq_false, not_false_eq_true]; exact j132
  have j103 : g32_j103 (some ⟨p, 0, none⟩) (v1, W) n (k : Int) w pq v.ld v.ep v.vr q4 w4 = some (.normal, ((k + 1 : Nat) : Int), w') := by
    unfold g32_j103; simp only [e5, obs, asP_pointer, asB_bool, asI_int, asS_string, asSl_slice, asM_map, asTup0, asTup1, asTup2, asTup3, asTup4, asTup5, asTup6, asTup7, asTup8, asTup9, asAgg2, asAgg3, asAgg4, asAgg5, asAgg6, asAgg7, asAgg8, asAgg9, asAgg12, getD0, getD1, getD2, getD3, getD4, getD5, getD6, getD7, getD8, getD9, getD10, getD11, getD12, getD13, getD14, getD15, getD16, getD17, getD18, getD19, Bool.not_true, Bool.not_false, Bool.false_eq_true, Bool.true_eq_false, ↓reduceIte, decide_true, decide_false, Option.isNone_some, Option.isNone_none, Option.isSome_some, Option.isSome_none, beq_self_eq_true, bne_self_eq_false, Bool.and_true, Bool.true_and, Bool.and_false, Bool.false_and, not_true_eq_false, not_false_eq_true]; exact j117
  have j90 : g32_j90 (some ⟨p, 0, none⟩) (v1, W) n (k : Int) w pq v.ld v.ep v.vr w3 = some (.normal, ((k + 1 : Nat) : Int), w') := by
    unfold g32_j90; simp only [e4, obs, asP_pointer, asB_bool, asI_int, asS_string, asSl_slice, asM_map, asTup0, asTup1, asTup2, asTup3, asTup4, asTup5, asTup6, asTup7, asTup8, asTup9, asAgg2, asAgg3, asAgg4, asAgg5, asAgg6, asAgg7, asAgg8, asAgg9, asAgg12, getD0, getD1, getD2, getD3, getD4, getD5, getD6, getD7, getD8, getD9, getD10, getD11, getD12, getD13, getD14, getD15, getD16, getD17, getD18, getD19, Bool.not_true, Bool.not_false, Bool.false_eq_true, Bool.true_eq_false, ↓reduceIte, decide_true, decide_false, Option.isNone_some, Option.isNone_none, Option.isSome_some, Option.isSome_none, beq_self_eq_true, bne_self_eq_false, Bool.and_true, Bool.true_and, Bool.and_false, Bool.false_and, not_true_eq_false, not_false_eq_true]; exact j103
  have j78 : g32_j78 (some ⟨p, 0, none⟩) (v1, W) n (k : Int) w pq v.ld v.ep w2 = some (.normal, ((k + 1 : Nat) : Int), w') := by
    unfold g32_j78; simp only [e3, obs, asP_pointer, asB_bool, asI_int, asS_string, asSl_slice, asM_map, asTup0, asTup1, asTup2, asTup3, asTup4, asTup5, asTup6, asTup7, asTup8, asTup9, asAgg2, asAgg3, asAgg4, asAgg5, asAgg6, asAgg7, asAgg8, asAgg9, asAgg12, getD0, getD1, getD2, getD3, getD4, getD5, getD6, getD7, getD8, getD9, getD10, getD11, getD12, getD13, getD14, getD15, getD16, getD17, getD18, getD19, Bool.not_true, Bool.not_false, Bool.false_eq_true, Bool.true_eq_false, ↓reduceIte, decide_true, decide_false, Option.isNone_some, Option.isNone_none, Option.isSome_some, Option.isSome_none, beq_self_eq_true, bne_self_eq_false, Bool.and_true, Bool.true_and, Bool.and_false, Bool.false_and, not_true_eq_false, not_false_eq_true]; exact j90
  have j67 : g32_j67 (some ⟨p, 0, none⟩) (v1, W) n (k : Int) w pq v.ld w1 = some (.normal, ((k + 1 : Nat) : Int), w') := by
    unfold g32_j67; simp only [e2, obs, asP_pointer, asB_bool, asI_int, asS_string, asSl_slice, asM_map, asTup0, asTup1, asTup2, asTup3, asTup4, asTup5, asTup6, asTup7, asTup8, asTup9, asAgg2, asAgg3, asAgg4, asAgg5, asAgg6, asAgg7, asAgg8, asAgg9, asAgg12, getD0, getD1, getD2, getD3, getD4, getD5, getD6, getD7, getD8, getD9, getD10, getD11, getD12, getD13, getD14, getD15, getD16, getD17, getD18, getD19, Bool.not_true, Bool.not_false, Bool.false_eq_true, Bool.true_eq_false, ↓reduceIte, decide_true, decide_false, Option.isNone_some, Option.isNone_none, Option.isSome_some, Option.isSome_none, beq_self_eq_true, bne_self_eq_false, Bool.and_true, Bool.true_and, Bool.and_false, Bool.false_and, not_true_eq_false, not_false_eq_true]; exact j78
  unfold g32_l46_b
  simp only [k0, addr_add, Nat.zero_add, h0.c1, e1, h1.c1, e2, h2.c1, e3, h3.c1, e4, h4.c1, e5, h5.c1, e6, h6.c1, hA.c1, j67, j78, j90, j103, j117, j132, ej, obs, asP_pointer, asB_bool, asI_int, asS_string, asSl_slice, asM_map, asTup0, asTup1, asTup2, asTup3, asTup4, asTup5, asTup6, asTup7, asTup8, asTup9, asAgg2, asAgg3, asAgg4, asAgg5, asAgg6, asAgg7, asAgg8, asAgg9, asAgg12, getD0, getD1, getD2, getD3, getD4, getD5, getD6, getD7, getD8, getD9, getD10, getD11, getD12, getD13, getD14, getD15, getD16, getD17, getD18, getD19, Bool.not_true, Bool.not_false, Bool.false_eq_true, Bool.true_eq_false, ↓reduceIte, decide_true, decide_false, Option.isNone_some, Option.isNone_none, Option.isSome_some, Option.isSome_none, beq_self_eq_true, bne_self_eq_false, Bool.and_true, Bool.true_and, Bool.and_false, Bool.false_and, not_true_eq_false, not_false_eq_true]
  have ej2 := ej
  unfold g32_j144 at ej2
  simp only [addr_add, Nat.zero_add] at ej2
  simp only [ej2, ite_self]
end
end Go.Proofs.Ytjcenfgmpbeldaa

namespace Go.Proofs.Ytjcenfgmpbeldaa
open Go Go.Ev
set_option maxRecDepth 100000
set_option linter.unusedVariables false
set_option linter.unusedSimpArgs false

open Classical in
noncomputable def decF (m : IM) (e : Int) : Option IM × Int := if e ≠ 0 then (none, e) else if soundI m then (some m, 0) else (none, 7)
theorem decM_eq (bs : List Int) : decM bs = decF (rdImg ⟨bs, 0, 0⟩).1 (endS (rdImg ⟨bs, 0, 0⟩).2) := rfl
def Got (w' : World) (lo : Nat) : Option IM → Option Addr → Prop
  | none, r => r = none
  | some m, r => ∃ b, r = some ⟨b, 0, none⟩ ∧ Img w' (fun y => lo ≤ y ∧ y < w'.heap.size) b m

theorem Bld.put {w w' : World} {b : Nat} {nq pq : Sh} {ns : List NV} {es : List PE} {pc pc' : Value} {count count' : Int} (h : Bld w b nq pq ns es pc count) (t : Blk w' b [.slice nq.1 nq.2.1 nq.2.2, .slice pq.1 pq.2.1 pq.2.2, pc', .int .i64 count'] 79) (f : Fr [b] w w') : Bld w' b nq pq ns es pc' count' := by
  have ap : ∀ {t : TypeId} {q : Sh} {n : Nat} {xs : List Value}, Own w t n q xs → t ≠ 79 → ∀ y ∈ blkOf q, y ∉ [b] := by
    intro t q n xs ho h1 y hy hm
    simp at hm; subst hm
    exact h.tbl.notin ho h1.symm hy
  exact ⟨t, h.nd.fr f (ap h.nd (by decide)), h.pt.fr f (ap h.pt (by decide)), fun e he => (h.ok e he).fr f (fun y hy => ⟨fun hm => ap (h.ok e he).oi (by decide) y hm hy, fun hm => ap (h.ok e he).or_ (by decide) y hm hy, fun hm => ap (h.ok e he).ot (by decide) y hm hy⟩) (fun _ => id), h.rn, h.rp⟩

theorem Bld.raw {w : World} {b c : Nat} {nq pq : Sh} {ns : List NV} {es : List PE} {count next : Int} (h : Bld w b nq pq ns es (.pointer (some ⟨c, 0, none⟩)) count) (ct : Ctr w c next 1001) (hc : b ≤ c) : Raw w (fun y => b ≤ y ∧ y < w.heap.size) b c nq pq ns es next count :=
  ⟨h.tbl, h.nd, h.pt, ct, fun e he => ⟨(h.ok e he).oi, (h.ok e he).or_, (h.ok e he).ot, ⟨fun y hy => ⟨(h.ok e he).reg.1 y hy, (h.ok e he).oi.lt y hy⟩, fun y hy => ⟨(h.ok e he).reg.2.1 y hy, (h.ok e he).or_.lt y hy⟩, fun y hy => ⟨(h.ok e he).reg.2.2 y hy, (h.ok e he).ot.lt y hy⟩⟩, (h.ok e he).len⟩,
    ⟨Nat.le_refl _, h.tbl.lt⟩, ⟨hc, (Array.getElem?_eq_some_iff.mp ct).1⟩, fun y hy => ⟨h.rn y hy, h.nd.lt y hy⟩, fun y hy => ⟨h.rp y hy, h.pt.lt y hy⟩, fun y hy => hy.2⟩

section
variable {W w : World} {p : Nat} {q : ShT} {s : RS} {nq pq : Sh} {ns : List NV} {es : List PE}

theorem Raw.up {w : World} {D D' : Nat → Prop} {b c : Nat} {nq pq : Sh} {ns : List NV} {es : List PE} {next count : Int} (h : Raw w D b c nq pq ns es next count) (hD : ∀ y, D y → D' y) (lt' : ∀ y, D' y → y < w.heap.size) : Raw w D' b c nq pq ns es next count :=
  ⟨h.tbl, h.nd, h.pt, h.ct, fun e he => (h.ok e he).up hD, hD _ h.rb, hD _ h.rc, fun y hy => hD y (h.rn y hy), fun y hy => hD y (h.rp y hy), lt'⟩
theorem Img.up {w : World} {D D' : Nat → Prop} {b : Nat} {m : IM} (h : Img w D b m) (hD : ∀ y, D y → D' y) (lt' : ∀ y, D' y → y < w.heap.size) : Img w D' b m := by
  obtain ⟨c, nq, pq, es, h, hv⟩ := h; exact ⟨c, nq, pq, es, h.up hD lt', hv⟩
theorem Got.up {w : World} {lo lo' : Nat} {o : Option IM} {r : Option Addr} (h : Got w lo o r) (hl : lo' ≤ lo) : Got w lo' o r := by
  cases o with
  | none => exact h
  | some m => obtain ⟨b, e, hi⟩ := h; exact ⟨b, e, hi.up (fun y hy => ⟨by omega, hy.2⟩) (fun y hy => hy.2)⟩

open Classical in
theorem tail32 (h : RB W w p q s nq pq ns es (.pointer none) 0) (hn : ns.length ≤ 5) (he : es.length ≤ 6) (v1 : Value) (t : Int) :
    ∃ r w', g32_l46_x2 (some ⟨p, 0, none⟩) (v1, W) t w = some (.tuple #[.pointer r, .int .i64 (decF ⟨ns, es.map (·.v), ((uintS s).1 : Int), (intS (uintS s).2).1⟩ (endS (intS (uintS s).2).2)).2], w') ∧
      Fr [p] W w' ∧ Got w' W.heap.size (decF ⟨ns, es.map (·.v), ((uintS s).1 : Int), (intS (uintS s).2).1⟩ (endS (intS (uintS s).2).2)).1 r := by
  obtain ⟨w1, e1, h1, f1⟩ := h.uint
  obtain ⟨n, hnn⟩ : ∃ n, ((uintS s).1 : Int) = n := ⟨_, rfl⟩
  have hn0 : 0 ≤ n := by omega
  rw [hnn] at e1 ⊢
  obtain ⟨w2, e2, c2, f2⟩ := new34 (w := w1) n 1001
  have h2 := h1.aside f2
  obtain ⟨c, hc⟩ : ∃ c, w1.heap.size = c := ⟨_, rfl⟩
  rw [hc] at e2 c2
  have hbl := h1.bld.tbl.lt
  obtain ⟨w3, s3, b3, f3⟩ := blk_put h2.bld.tbl (i := 2) (by simp) (v := .pointer (some ⟨c, 0, none⟩)) rfl
  have h3 := h2.build (h2.bld.put b3 f3) f3 (by intro y hy; simp at hy; omega)
  have c3 := c2.fr f3 (by simp; omega)
  obtain ⟨w4, e4, h4, f4⟩ := h3.int
  have c4 := c3.fr f4 (by have := h.pl; simp; omega)
  obtain ⟨ct, hct⟩ : ∃ ct, (intS (uintS s).2).1 = ct := ⟨_, rfl⟩
  rw [hct] at e4 ⊢
  obtain ⟨w5, s5, b5, f5⟩ := blk_put h4.bld.tbl (i := 3) (by simp) (v := .int .i64 ct) rfl
  have h5 := h4.build (h4.bld.put b5 f5) f5 (by intro y hy; simp at hy; omega)
  have c5 := c4.fr f5 (by simp; omega)
  have e6 := end61 h5.rd
  have h6 := h5.aside (Fr.drew [] w5)
  have c6 := c5.fr (Fr.drew [] w5) (by simp)
  obtain ⟨ec, hec⟩ : ∃ ec, endS (intS (uintS s).2).2 = ec := ⟨_, rfl⟩
  rw [hec] at e6 ⊢
  have hR := h6.bld.raw c6 (by omega)
  obtain ⟨w7, e7, f7⟩ := sound64 hR n hn0 (by omega) (by omega)
  by_cases h0 : ec = 0
  case neg =>
    have k : (ec != 0) = true := by simp [h0]
    refine ⟨none, w5.drew, ?_, h6.fr, ?_⟩
    · unfold g32_l46_x2
      simp only [addr_add, Nat.zero_add, e1, e2, s3, e4, s5, e6, k, obs, asP_pointer, asB_bool, asI_int, asS_string, asSl_slice, asM_map, asTup0, asTup1, asTup2, asTup3, asTup4, asTup5, asTup6, asTup7, asTup8, asTup9, asAgg2, asAgg3, asAgg4, asAgg5, asAgg6, asAgg7, asAgg8, asAgg9, asAgg12, getD0, getD1, getD2, getD3, getD4, getD5, getD6, getD7, getD8, getD9, getD10, getD11, getD12, getD13, getD14, getD15, getD16, getD17, getD18, getD19, Bool.not_true, Bool.not_false, Bool.false_eq_true, Bool.true_eq_false, ↓reduceIte, decide_true, decide_false, Option.isNone_some, Option.isNone_none, Option.isSome_some, Option.isSome_none, beq_self_eq_true, bne_self_eq_false, Bool.and_true, Bool.true_and, Bool.and_false, Bool.false_and, not_true_eq_false, not_false_eq_true]
      simp only [decF, ne_eq, h0, not_false_eq_true, if_true]
    · simp only [decF, ne_eq, h0, not_false_eq_true, if_true, Got]
  have k : (ec != 0) = false := by simp [h0]
  by_cases hs : soundI ⟨ns, es.map (·.v), n, ct⟩
  case neg =>
    have k2 : decide (soundI ⟨ns, es.map (·.v), n, ct⟩) = false := decide_eq_false hs
    rw [k2] at e7
    refine ⟨none, w7, ?_, (h6.aside f7).fr, ?_⟩
    · unfold g32_l46_x2
      simp only [addr_add, Nat.zero_add, e1, e2, s3, e4, s5, e6, k, e7, obs, asP_pointer, asB_bool, asI_int, asS_string, asSl_slice, asM_map, asTup0, asTup1, asTup2, asTup3, asTup4, asTup5, asTup6, asTup7, asTup8, asTup9, asAgg2, asAgg3, asAgg4, asAgg5, asAgg6, asAgg7, asAgg8, asAgg9, asAgg12, getD0, getD1, getD2, getD3, getD4, getD5, getD6, getD7, getD8, getD9, getD10, getD11, getD12, getD13, getD14, getD15, getD16, getD17, getD18, getD19, Bool.not_true, Bool.not_false, Bool.false_eq_true, Bool.true_eq_false, ↓reduceIte, decide_true, decide_false, Option.isNone_some, Option.isNone_none, Option.isSome_some, Option.isSome_none, beq_self_eq_true, bne_self_eq_false, Bool.and_true, Bool.true_and, Bool.and_false, Bool.false_and, not_true_eq_false, not_false_eq_true]
      simp only [decF, ne_eq, h0, not_true_eq_false, if_false, hs]
    · simp only [decF, ne_eq, h0, not_true_eq_false, if_false, hs, Got]
  have k2 : decide (soundI ⟨ns, es.map (·.v), n, ct⟩) = true := decide_eq_true hs
  rw [k2] at e7
  have hnx : (if (1001 : Int) < n then 1001 else n) = n := by have : n ≤ 1001 := hs.2.2.2.1; rw [if_neg (by omega)]
  rw [hnx] at hR
  refine ⟨some ⟨W.heap.size, 0, none⟩, w7, ?_, (h6.aside f7).fr, ?_⟩
  · unfold g32_l46_x2
    simp only [addr_add, Nat.zero_add, e1, e2, s3, e4, s5, e6, k, e7, obs, asP_pointer, asB_bool, asI_int, asS_string, asSl_slice, asM_map, asTup0, asTup1, asTup2, asTup3, asTup4, asTup5, asTup6, asTup7, asTup8, asTup9, asAgg2, asAgg3, asAgg4, asAgg5, asAgg6, asAgg7, asAgg8, asAgg9, asAgg12, getD0, getD1, getD2, getD3, getD4, getD5, getD6, getD7, getD8, getD9, getD10, getD11, getD12, getD13, getD14, getD15, getD16, getD17, getD18, getD19, Bool.not_true, Bool.not_false, Bool.false_eq_true, Bool.true_eq_false, ↓reduceIte, decide_true, decide_false, Option.isNone_some, Option.isNone_none, Option.isSome_some, Option.isSome_none, beq_self_eq_true, bne_self_eq_false, Bool.and_true, Bool.true_and, Bool.and_false, Bool.false_and, not_true_eq_false, not_false_eq_true]
    simp only [decF, ne_eq, h0, not_true_eq_false, if_false, hs, if_true]
  · simp only [decF, ne_eq, h0, not_true_eq_false, if_false, hs, if_true, Got]
    have hR7 := hR.fr f7 (by simp)
    have z7 := f7.size
    exact ⟨_, rfl, c, nq, pq, es, hR7.up (fun y hy => ⟨hy.1, by omega⟩) (fun y hy => hy.2), rfl⟩

def imgP (ns : List NV) (s : RS) : IM × RS :=
  (⟨ns, (rdN rdPart (capN 6 (uintS s).1) (uintS s).2).1, ((uintS (rdN rdPart (capN 6 (uintS s).1) (uintS s).2).2).1 : Int), (intS (uintS (rdN rdPart (capN 6 (uintS s).1) (uintS s).2).2).2).1⟩, (intS (uintS (rdN rdPart (capN 6 (uintS s).1) (uintS s).2).2).2).2)
theorem rdImg_imgP (s : RS) : rdImg s = imgP (rdN rdNode (capN 5 (uintS s).1) (uintS s).2).1 (rdN rdNode (capN 5 (uintS s).1) (uintS s).2).2 := rfl

theorem parts32 (h : RB W w p q s nq pq ns [] (.pointer none) 0) (hn : ns.length ≤ 5) (v1 : Value) (t : Int) :
    ∃ r w', g32_l5_x0 (some ⟨p, 0, none⟩) (v1, W) t w = some (.tuple #[.pointer r, .int .i64 (decF (imgP ns s).1 (endS (imgP ns s).2)).2], w') ∧
      Fr [p] W w' ∧ Got w' W.heap.size (decF (imgP ns s).1 (endS (imgP ns s).2)).1 r := by
  obtain ⟨w1, e1, h1, f1⟩ := h.uint
  obtain ⟨n, hnn⟩ : ∃ n, (uintS s).1 = n := ⟨_, rfl⟩
  rw [x0_parts]
  unfold imgP
  rw [hnn] at e1 ⊢
  by_cases c0 : 1 ≤ n ∧ n ≤ 6
  · have hcap : capN 6 n = n := by unfold capN; rw [if_neg (by omega)]
    rw [hcap]
    have k1 : decide ((n : Int) ≥ 1) = true := by simp; omega
    have k2 : decide ((n : Int) ≤ 6) = true := by simp; omega
    obtain ⟨e, t', w', g1, hQ, pq', es', h2, hv⟩ := loopS_rule (b := g32_l46_b (n : Int) (v1, W) (some ⟨p, 0, none⟩)) (n := n)
      (I := fun k s' x => s' = (k : Int) ∧ ∃ pq' es', RB W x p q (rdN rdPart k (uintS s).2).2 nq pq' ns es' (.pointer none) 0 ∧ es'.map (·.v) = (rdN rdPart k (uintS s).2).1)
      (Q := fun e s' x => e = .exit 2 ∧ ∃ pq' es', RB W x p q (rdN rdPart n (uintS s).2).2 nq pq' ns es' (.pointer none) 0 ∧ es'.map (·.v) = (rdN rdPart n (uintS s).2).1)
      (fun k s' x hk ⟨hs, pq', es', hI, hv⟩ => by
        subst hs
        have hl : es'.length = k := by have := congrArg List.length hv; rw [List.length_map, rdN_len] at this; exact this
        obtain ⟨pq2, e, x', ee, hJ, hev⟩ := part_round hI hk (by omega) (by omega) (v1 := v1)
        refine ⟨_, _, x', ee, .inl ⟨rfl, rfl, pq2, es' ++ [e], hJ, ?_⟩⟩
        rw [List.map_append, hv, List.map_cons, hev]; rfl)
      (fun s' x ⟨hs, hI⟩ => by
        subst hs
        refine ⟨.exit 2, (n : Int), x, ?_, by simp, rfl, hI⟩
        have kk : decide ((n : Int) < (n : Int)) = false := by simp
        unfold g32_l46_b
        simp only [kk, Bool.false_eq_true, if_false]) (k := 0) (s := 0) (w := w1) (Nat.zero_le _) ⟨rfl, pq, [], h1, rfl⟩
    subst hQ
    have hl : es'.length = n := by have := congrArg List.length hv; rw [List.length_map, rdN_len] at this; exact this
    obtain ⟨r, w2, e2, f2, G⟩ := tail32 h2 hn (by omega) v1 t'
    rw [hv] at e2 G
    refine ⟨r, w2, ?_, f2, G⟩
    simp only [e1, k1, k2, obs, asP_pointer, asB_bool, asI_int, asS_string, asSl_slice, asM_map, asTup0, asTup1, asTup2, asTup3, asTup4, asTup5, asTup6, asTup7, asTup8, asTup9, asAgg2, asAgg3, asAgg4, asAgg5, asAgg6, asAgg7, asAgg8, asAgg9, asAgg12, getD0, getD1, getD2, getD3, getD4, getD5, getD6, getD7, getD8, getD9, getD10, getD11, getD12, getD13, getD14, getD15, getD16, getD17, getD18, getD19, Bool.not_true, Bool.not_false, Bool.false_eq_true, Bool.true_eq_false, ↓reduceIte, decide_true, decide_false, Option.isNone_some, Option.isNone_none, Option.isSome_some, Option.isSome_none, beq_self_eq_true, bne_self_eq_false, Bool.and_true, Bool.true_and, Bool.and_false, Bool.false_and, not_true_eq_false, not_false_eq_true]
    rw [g32_l46_x2_of g1]
    exact e2
  · have hcap : capN 6 n = 0 := by unfold capN; split <;> omega
    rw [hcap]
    obtain ⟨r, w2, e2, f2, G⟩ := tail32 h1 hn (by simp) v1 0
    refine ⟨r, w2, ?_, f2, G⟩
    by_cases c1 : 1 ≤ n
    · have k1 : decide ((n : Int) ≥ 1) = true := by simp; omega
      have k2 : decide ((n : Int) ≤ 6) = false := by simp; omega
      simp only [e1, k1, k2, obs, asP_pointer, asB_bool, asI_int, asS_string, asSl_slice, asM_map, asTup0, asTup1, asTup2, asTup3, asTup4, asTup5, asTup6, asTup7, asTup8, asTup9, asAgg2, asAgg3, asAgg4, asAgg5, asAgg6, asAgg7, asAgg8, asAgg9, asAgg12, getD0, getD1, getD2, getD3, getD4, getD5, getD6, getD7, getD8, getD9, getD10, getD11, getD12, getD13, getD14, getD15, getD16, getD17, getD18, getD19, Bool.not_true, Bool.not_false, Bool.false_eq_true, Bool.true_eq_false, ↓reduceIte, decide_true, decide_false, Option.isNone_some, Option.isNone_none, Option.isSome_some, Option.isSome_none, beq_self_eq_true, bne_self_eq_false, Bool.and_true, Bool.true_and, Bool.and_false, Bool.false_and, not_true_eq_false, not_false_eq_true]
      exact e2
    · have k1 : decide ((n : Int) ≥ 1) = false := by simp; omega
      simp only [e1, k1, obs, asP_pointer, asB_bool, asI_int, asS_string, asSl_slice, asM_map, asTup0, asTup1, asTup2, asTup3, asTup4, asTup5, asTup6, asTup7, asTup8, asTup9, asAgg2, asAgg3, asAgg4, asAgg5, asAgg6, asAgg7, asAgg8, asAgg9, asAgg12, getD0, getD1, getD2, getD3, getD4, getD5, getD6, getD7, getD8, getD9, getD10, getD11, getD12, getD13, getD14, getD15, getD16, getD17, getD18, getD19, Bool.not_true, Bool.not_false, Bool.false_eq_true, Bool.true_eq_false, ↓reduceIte, decide_true, decide_false, Option.isNone_some, Option.isNone_none, Option.isSome_some, Option.isSome_none, beq_self_eq_true, bne_self_eq_false, Bool.and_true, Bool.true_and, Bool.and_false, Bool.false_and, not_true_eq_false, not_false_eq_true]
      exact e2

theorem own_nl {T : TypeId} {n : Nat} : Own w T n nl [] := ⟨by simp, Nat.le_refl _, by decide, .inl ⟨rfl, rfl⟩⟩

end

/-- Read: what the model reads -/
theorem read32 {w : World} {u : ShT} {bs : List Int} (hu : SlI .u8 w u bs) (hb : ∀ b ∈ bs, 0 ≤ b ∧ b ≤ 255) (hl : bs.length ≤ 140737488351232) :
    ∃ r w', callF Try.prog 32 #[.slice u.1 u.2.1 u.2.2] w = some (.tuple #[.pointer r, .int .i64 (decM bs).2], w') ∧ Fr [] w w' ∧ Got w' w.heap.size (decM bs).1 r := by
  obtain ⟨p, q, W, e0, R0, f0, hp, hq⟩ := new56 hu hb hl
  have b0 : Blk (W.alloc (.cells #[.slice none 0 0, .slice none 0 0, .pointer none, .int .i64 0] 79)) W.heap.size [.slice none 0 0, .slice none 0 0, .pointer none, .int .i64 0] 79 := Blk.new W [.slice none 0 0, .slice none 0 0, .pointer none, .int .i64 0] 79
  have fa : Fr [] W (W.alloc (.cells #[.slice none 0 0, .slice none 0 0, .pointer none, .int .i64 0] 79)) := Fr.alloc _
  obtain ⟨w1, hw1⟩ : ∃ w1, W.alloc (.cells #[.slice none 0 0, .slice none 0 0, .pointer none, .int .i64 0] 79) = w1 := ⟨_, rfl⟩
  rw [hw1] at b0 fa
  have h0 : RB W w1 p q ⟨bs, 0, 0⟩ nl nl [] [] (.pointer none) 0 := ⟨⟨b0, own_nl, own_nl, by simp, by simp [blkOf], by simp [blkOf]⟩, R0.fr fa (by simp) (by simp), fa.mono (by simp), R0.blk.lt, fun h0 y hy => R0.txt.slC.lt (by have h1 : bs.length = q.2.1 := R0.txt.1; rw [List.length_map]; show 0 < bs.length; omega) y hy⟩
  obtain ⟨w2, e2, h2, f2⟩ := h0.uint
  have z0 := f0.size
  rw [decM_eq, rdImg_imgP]
  obtain ⟨s, hs⟩ : ∃ s : RS, (⟨bs, 0, 0⟩ : RS) = s := ⟨_, rfl⟩
  rw [hs] at h0 e2 h2 ⊢
  obtain ⟨n, hnn⟩ : ∃ n, (uintS s).1 = n := ⟨_, rfl⟩
  rw [hnn] at e2 ⊢
  have fin : ∀ {r : Option Addr} {v : Value} {w' : World} {o : Option IM}, g32 u w = some (v, w') → Fr [p] W w' → Got w' W.heap.size o r → callF Try.prog 32 #[.slice u.1 u.2.1 u.2.2] w = some (v, w') ∧ Fr [] w w' ∧ Got w' w.heap.size o r := by
    intro r v w' o e f G
    exact ⟨g32_call e, (f0.app f).mono (by intro y hy hlt; simp at hy; omega), G.up z0⟩
  by_cases c0 : 1 ≤ n ∧ n ≤ 5
  · have hcap : capN 5 n = n := by unfold capN; rw [if_neg (by omega)]
    rw [hcap]
    have k1 : decide ((n : Int) ≥ 1) = true := by simp; omega
    have k2 : decide ((n : Int) ≤ 5) = true := by simp; omega
    obtain ⟨e, t', w', g1, hQ, nq', h3⟩ := loopS_rule (b := g32_l5_b (n : Int) (some ⟨p, 0, none⟩) (.pointer (some ⟨p, 0, none⟩), W)) (n := n)
      (I := fun k s' x => s' = (k : Int) ∧ ∃ nq', RB W x p q (rdN rdNode k (uintS s).2).2 nq' nl (rdN rdNode k (uintS s).2).1 [] (.pointer none) 0)
      (Q := fun e s' x => e = .exit 0 ∧ ∃ nq', RB W x p q (rdN rdNode n (uintS s).2).2 nq' nl (rdN rdNode n (uintS s).2).1 [] (.pointer none) 0)
      (fun k s' x hk ⟨hs, nq', hI⟩ => by
        subst hs
        obtain ⟨nq2, x', ee, hJ⟩ := node_round hI hk (by omega) (by rw [rdN_len]; omega) (v1 := .pointer (some ⟨p, 0, none⟩))
        exact ⟨_, _, x', ee, .inl ⟨rfl, rfl, nq2, hJ⟩⟩)
      (fun s' x ⟨hs, hI⟩ => by
        subst hs
        refine ⟨.exit 0, (n : Int), x, ?_, by simp, rfl, hI⟩
        have kk : decide ((n : Int) < (n : Int)) = false := by simp
        unfold g32_l5_b
        simp only [kk, Bool.false_eq_true, if_false]) (k := 0) (s := 0) (w := w2) (Nat.zero_le _) ⟨rfl, nl, h2⟩
    subst hQ
    obtain ⟨r, w3, e3, f3, G⟩ := parts32 h3 (by rw [rdN_len]; omega) (.pointer (some ⟨p, 0, none⟩)) t'
    refine ⟨r, w3, fin ?_ f3 G⟩
    rw [g32_parts]
    simp only [e0, hw1, e2, k1, k2, obs, asP_pointer, asB_bool, asI_int, asS_string, asSl_slice, asM_map, asTup0, asTup1, asTup2, asTup3, asTup4, asTup5, asTup6, asTup7, asTup8, asTup9, asAgg2, asAgg3, asAgg4, asAgg5, asAgg6, asAgg7, asAgg8, asAgg9, asAgg12, getD0, getD1, getD2, getD3, getD4, getD5, getD6, getD7, getD8, getD9, getD10, getD11, getD12, getD13, getD14, getD15, getD16, getD17, getD18, getD19, Bool.not_true, Bool.not_false, Bool.false_eq_true, Bool.true_eq_false, ↓reduceIte, decide_true, decide_false, Option.isNone_some, Option.isNone_none, Option.isSome_some, Option.isSome_none, beq_self_eq_true, bne_self_eq_false, Bool.and_true, Bool.true_and, Bool.and_false, Bool.false_and, not_true_eq_false, not_false_eq_true]
    rw [g32_l5_x0_of g1]
    exact e3
  · have hcap : capN 5 n = 0 := by unfold capN; split <;> omega
    rw [hcap]
    obtain ⟨r, w3, e3, f3, G⟩ := parts32 h2 (by simp) (.pointer (some ⟨p, 0, none⟩)) 0
    refine ⟨r, w3, fin ?_ f3 G⟩
    rw [g32_parts]
    by_cases c1 : 1 ≤ n
    · have k1 : decide ((n : Int) ≥ 1) = true := by simp; omega
      have k2 : decide ((n : Int) ≤ 5) = false := by simp; omega
      simp only [e0, hw1, e2, k1, k2, obs, asP_pointer, asB_bool, asI_int, asS_string, asSl_slice, asM_map, asTup0, asTup1, asTup2, asTup3, asTup4, asTup5, asTup6, asTup7, asTup8, asTup9, asAgg2, asAgg3, asAgg4, asAgg5, asAgg6, asAgg7, asAgg8, asAgg9, asAgg12, getD0, getD1, getD2, getD3, getD4, getD5, getD6, getD7, getD8, getD9, getD10, getD11, getD12, getD13, getD14, getD15, getD16, getD17, getD18, getD19, Bool.not_true, Bool.not_false, Bool.false_eq_true, Bool.true_eq_false, ↓reduceIte, decide_true, decide_false, Option.isNone_some, Option.isNone_none, Option.isSome_some, Option.isSome_none, beq_self_eq_true, bne_self_eq_false, Bool.and_true, Bool.true_and, Bool.and_false, Bool.false_and, not_true_eq_false, not_false_eq_true]
      exact e3
    · have k1 : decide ((n : Int) ≥ 1) = false := by simp; omega
      simp only [e0, hw1, e2, k1, obs, asP_pointer, asB_bool, asI_int, asS_string, asSl_slice, asM_map, asTup0, asTup1, asTup2, asTup3, asTup4, asTup5, asTup6, asTup7, asTup8, asTup9, asAgg2, asAgg3, asAgg4, asAgg5, asAgg6, asAgg7, asAgg8, asAgg9, asAgg12, getD0, getD1, getD2, getD3, getD4, getD5, getD6, getD7, getD8, getD9, getD10, getD11, getD12, getD13, getD14, getD15, getD16, getD17, getD18, getD19, Bool.not_true, Bool.not_false, Bool.false_eq_true, Bool.true_eq_false, ↓reduceIte, decide_true, decide_false, Option.isNone_some, Option.isNone_none, Option.isSome_some, Option.isSome_none, beq_self_eq_true, bne_self_eq_false, Bool.and_true, Bool.true_and, Bool.and_false, Bool.false_and, not_true_eq_false, not_false_eq_true]
      exact e3
end Go.Proofs.Ytjcenfgmpbeldaa

namespace Go.Proofs.Ytjcenfgmpbeldaa
open Go Go.Ev
set_option maxRecDepth 100000
set_option linter.unusedVariables false
set_option linter.unusedSimpArgs false

theorem t86 : TSl Try.prog 86 4 1 1 := tsl_of Try.underlying86 (by kernel_rfl)
theorem t87 : TSl Try.prog 87 38 1 8 := tsl_of Try.underlying87 (by kernel_rfl)

/-- the document's image under way -/
structure Bl2 (w : World) (b : Nat) (qa qc qb qp : Sh) (la lc lb : List Value) (es : List PE) (next count : Int) : Prop where
  blk : Blk w b [.slice qa.1 qa.2.1 qa.2.2, .slice qc.1 qc.2.1 qc.2.2, .slice qb.1 qb.2.1 qb.2.2, .slice qp.1 qp.2.1 qp.2.2, .int .u64 next, .int .i64 count] 89
  oa : Own w 4 1 qa la
  oc : Own w 3 1 qc lc
  ob : Own w 38 1 qb lb
  op : Own w 30 6 qp (ptCs es)
  ok : ∀ e ∈ es, PeOk w (fun y => b ≤ y) e
  ra : ∀ y ∈ blkOf qa, b ≤ y
  rc : ∀ y ∈ blkOf qc, b ≤ y
  rb : ∀ y ∈ blkOf qb, b ≤ y
  rp : ∀ y ∈ blkOf qp, b ≤ y

section
variable {w : World} {b : Nat} {qa qc qb qp : Sh} {la lc lb : List Value} {es : List PE} {next count : Int}
theorem Bl2.fr {w' : World} {S : List Nat} (h : Bl2 w b qa qc qb qp la lc lb es next count) (hf : Fr S w w') (hS : ∀ y ∈ S, y < b) : Bl2 w' b qa qc qb qp la lc lb es next count :=
  ⟨h.blk.fr hf (fun hm => by have := hS b hm; omega), h.oa.fr hf (fun y hy hm => by have := hS y hm; have := h.ra y hy; omega), h.oc.fr hf (fun y hy hm => by have := hS y hm; have := h.rc y hy; omega), h.ob.fr hf (fun y hy hm => by have := hS y hm; have := h.rb y hy; omega), h.op.fr hf (fun y hy hm => by have := hS y hm; have := h.rp y hy; omega),
    fun e he => (h.ok e he).fr hf (fun y hy => ⟨fun hm => by have := hS y hy; have := (h.ok e he).reg.1 y hm; omega, fun hm => by have := hS y hy; have := (h.ok e he).reg.2.1 y hm; omega, fun hm => by have := hS y hy; have := (h.ok e he).reg.2.2 y hm; omega⟩) (fun _ => id), h.ra, h.rc, h.rb, h.rp⟩
theorem Bl2.put {w' : World} {next' count' : Int} (h : Bl2 w b qa qc qb qp la lc lb es next count) (t : Blk w' b [.slice qa.1 qa.2.1 qa.2.2, .slice qc.1 qc.2.1 qc.2.2, .slice qb.1 qb.2.1 qb.2.2, .slice qp.1 qp.2.1 qp.2.2, .int .u64 next', .int .i64 count'] 89) (f : Fr [b] w w') : Bl2 w' b qa qc qb qp la lc lb es next' count' := by
  have ap : ∀ {t : TypeId} {q : Sh} {n : Nat} {xs : List Value}, Own w t n q xs → t ≠ 89 → ∀ y ∈ blkOf q, y ∉ [b] := by
    intro t q n xs ho h1 y hy hm
    simp at hm; subst hm
    exact h.blk.notin ho h1.symm hy
  exact ⟨t, h.oa.fr f (ap h.oa (by decide)), h.oc.fr f (ap h.oc (by decide)), h.ob.fr f (ap h.ob (by decide)), h.op.fr f (ap h.op (by decide)), fun e he => (h.ok e he).fr f (fun y hy => ⟨fun hm => ap (h.ok e he).oi (by decide) y hm hy, fun hm => ap (h.ok e he).or_ (by decide) y hm hy, fun hm => ap (h.ok e he).ot (by decide) y hm hy⟩) (fun _ => id), h.ra, h.rc, h.rb, h.rp⟩

/-- one flag more -/
theorem Bl2.pushA (h : Bl2 w b qa qc qb qp la lc lb es next count) (x : Bool) (hl : la.length ≤ 1000) :
    ∃ qa' w1 w2, callB Try.prog .append #[86, 86] 86 #[false, false] #[.slice qa.1 qa.2.1 qa.2.2, .slice (some ⟨w.heap.size, 0, none⟩) 1 1] (w.alloc (.cells #[.bool x] 4)) = some (.slice qa'.1 qa'.2.1 qa'.2.2, w1) ∧
      st1 w1 ⟨b, 0, none⟩ (.slice qa'.1 qa'.2.1 qa'.2.2) = some w2 ∧ Bl2 w2 b qa' qc qb qp (la ++ [.bool x]) lc lb es next count ∧ Fr (b :: blkOf qa) w w2 := by
  have hml : maxLen = 9223372036854775807 := by decide
  have hpl := h.oa.len
  obtain ⟨q', w1, e1, o1, f1, n1, l1⟩ := app_one t86 (w := w) h.oa (ys := [.bool x]) rfl (by simp [Value.oneCell']) (by omega) (by omega) 86 #[false, false]
  have hpn := h.blk.notin h.oa (by decide)
  have b1 := h.blk.fr f1 hpn
  have s2 : st1 w1 ⟨b, 0, none⟩ (.slice q'.1 q'.2.1 q'.2.2) = some (w1.setCell ⟨b, 0, none⟩ (.slice q'.1 q'.2.1 q'.2.2)) := b1.st1 (by simp) rfl
  have b2 := b1.set 0 (.slice q'.1 q'.2.1 q'.2.2)
  have f2 : Fr [b] w1 (w1.setCell ⟨b, 0, none⟩ (.slice q'.1 q'.2.1 q'.2.2)) := Fr.setCell
  obtain ⟨w2, hw2⟩ : ∃ w2, w1.setCell ⟨b, 0, none⟩ (.slice q'.1 q'.2.1 q'.2.2) = w2 := ⟨_, rfl⟩
  rw [hw2] at s2 b2 f2
  have F : Fr (b :: blkOf qa) w w2 := (f1.app f2).mono (by intro y hy _; simp at hy ⊢; rcases hy with hy | hy; exact .inr hy; exact .inl hy)
  have hbl := h.blk.lt
  have apE : ∀ {t : TypeId} {q : Sh} {n : Nat} {xs : List Value}, Own w t n q xs → t ≠ 4 → t ≠ 89 → ∀ y ∈ blkOf q, y ∉ (b :: blkOf qa) := by
    intro t q n xs ho h1 h2 y hy hm
    rcases List.mem_cons.mp hm with rfl | hm
    · exact h.blk.notin ho h2.symm hy
    · exact ho.apart h.oa h1 y hy hm
  have hp2 : b ∉ blkOf q' := fun hm => by
    rcases n1 b hm with hh | hh
    · exact hpn hh
    · omega
  refine ⟨q', w1, w2, e1, s2, ⟨b2, o1.fr f2 (fun y hy hm => by simp at hm; subst hm; exact hp2 hy), h.oc.fr F (apE h.oc (by decide) (by decide)), h.ob.fr F (apE h.ob (by decide) (by decide)), h.op.fr F (apE h.op (by decide) (by decide)), fun e he => ?_, fun y hy => ?_, h.rc, h.rb, h.rp⟩, F⟩
  · have ok := h.ok e he
    exact ok.fr F (fun y hy => ⟨fun hm => apE ok.oi (by decide) (by decide) y hm hy, fun hm => apE ok.or_ (by decide) (by decide) y hm hy, fun hm => apE ok.ot (by decide) (by decide) y hm hy⟩) (fun _ => id)
  · rcases n1 y hy with hh | hh
    · exact h.ra y hh
    · omega

/-- one number of blocks more -/
theorem Bl2.pushB (h : Bl2 w b qa qc qb qp la lc lb es next count) (x : Int) (hl : lb.length ≤ 1000) :
    ∃ qb' w1 w2, callB Try.prog .append #[87, 87] 87 #[false, false] #[.slice qb.1 qb.2.1 qb.2.2, .slice (some ⟨w.heap.size, 0, none⟩) 1 1] (w.alloc (.cells #[.int .u64 x] 38)) = some (.slice qb'.1 qb'.2.1 qb'.2.2, w1) ∧
      st1 w1 ⟨b, 2, none⟩ (.slice qb'.1 qb'.2.1 qb'.2.2) = some w2 ∧ Bl2 w2 b qa qc qb' qp la lc (lb ++ [.int .u64 x]) es next count ∧ Fr (b :: blkOf qb) w w2 := by
  have hml : maxLen = 9223372036854775807 := by decide
  have hpl := h.ob.len
  obtain ⟨q', w1, e1, o1, f1, n1, l1⟩ := app_one t87 (w := w) h.ob (ys := [.int .u64 x]) rfl (by simp [Value.oneCell']) (by omega) (by omega) 87 #[false, false]
  have hpn := h.blk.notin h.ob (by decide)
  have b1 := h.blk.fr f1 hpn
  have s2 : st1 w1 ⟨b, 2, none⟩ (.slice q'.1 q'.2.1 q'.2.2) = some (w1.setCell ⟨b, 2, none⟩ (.slice q'.1 q'.2.1 q'.2.2)) := b1.st1 (by simp) rfl
  have b2 := b1.set 2 (.slice q'.1 q'.2.1 q'.2.2)
  have f2 : Fr [b] w1 (w1.setCell ⟨b, 2, none⟩ (.slice q'.1 q'.2.1 q'.2.2)) := Fr.setCell
  obtain ⟨w2, hw2⟩ : ∃ w2, w1.setCell ⟨b, 2, none⟩ (.slice q'.1 q'.2.1 q'.2.2) = w2 := ⟨_, rfl⟩
  rw [hw2] at s2 b2 f2
  have F : Fr (b :: blkOf qb) w w2 := (f1.app f2).mono (by intro y hy _; simp at hy ⊢; rcases hy with hy | hy; exact .inr hy; exact .inl hy)
  have hbl := h.blk.lt
  have apE : ∀ {t : TypeId} {q : Sh} {n : Nat} {xs : List Value}, Own w t n q xs → t ≠ 38 → t ≠ 89 → ∀ y ∈ blkOf q, y ∉ (b :: blkOf qb) := by
    intro t q n xs ho h1 h2 y hy hm
    rcases List.mem_cons.mp hm with rfl | hm
    · exact h.blk.notin ho h2.symm hy
    · exact ho.apart h.ob h1 y hy hm
  have hp2 : b ∉ blkOf q' := fun hm => by
    rcases n1 b hm with hh | hh
    · exact hpn hh
    · omega
  refine ⟨q', w1, w2, e1, s2, ⟨b2, h.oa.fr F (apE h.oa (by decide) (by decide)), h.oc.fr F (apE h.oc (by decide) (by decide)), o1.fr f2 (fun y hy hm => by simp at hm; subst hm; exact hp2 hy), h.op.fr F (apE h.op (by decide) (by decide)), fun e he => ?_, h.ra, h.rc, fun y hy => ?_, h.rp⟩, F⟩
  · have ok := h.ok e he
    exact ok.fr F (fun y hy => ⟨fun hm => apE ok.oi (by decide) (by decide) y hm hy, fun hm => apE ok.or_ (by decide) (by decide) y hm hy, fun hm => apE ok.ot (by decide) (by decide) y hm hy⟩) (fun _ => id)
  · rcases n1 y hy with hh | hh
    · exact h.rb y hh
    · omega

/-- one count of comings more: no part is there yet -/
theorem Bl2.pushC (h : Bl2 w b qa qc qb qp la lc lb [] next count) (x : Int) (hl : lc.length ≤ 1000) :
    ∃ qc' w1 w2, callB Try.prog .append #[28, 28] 28 #[false, false] #[.slice qc.1 qc.2.1 qc.2.2, .slice (some ⟨w.heap.size, 0, none⟩) 1 1] (w.alloc (.cells #[.int .i64 x] 3)) = some (.slice qc'.1 qc'.2.1 qc'.2.2, w1) ∧
      st1 w1 ⟨b, 1, none⟩ (.slice qc'.1 qc'.2.1 qc'.2.2) = some w2 ∧ Bl2 w2 b qa qc' qb qp la (lc ++ [.int .i64 x]) lb [] next count ∧ Fr (b :: blkOf qc) w w2 := by
  have hml : maxLen = 9223372036854775807 := by decide
  have hpl := h.oc.len
  obtain ⟨q', w1, e1, o1, f1, n1, l1⟩ := app_one t28 (w := w) h.oc (ys := [.int .i64 x]) rfl (by simp [Value.oneCell']) (by omega) (by omega) 28 #[false, false]
  have hpn := h.blk.notin h.oc (by decide)
  have b1 := h.blk.fr f1 hpn
  have s2 : st1 w1 ⟨b, 1, none⟩ (.slice q'.1 q'.2.1 q'.2.2) = some (w1.setCell ⟨b, 1, none⟩ (.slice q'.1 q'.2.1 q'.2.2)) := b1.st1 (by simp) rfl
  have b2 := b1.set 1 (.slice q'.1 q'.2.1 q'.2.2)
  have f2 : Fr [b] w1 (w1.setCell ⟨b, 1, none⟩ (.slice q'.1 q'.2.1 q'.2.2)) := Fr.setCell
  obtain ⟨w2, hw2⟩ : ∃ w2, w1.setCell ⟨b, 1, none⟩ (.slice q'.1 q'.2.1 q'.2.2) = w2 := ⟨_, rfl⟩
  rw [hw2] at s2 b2 f2
  have F : Fr (b :: blkOf qc) w w2 := (f1.app f2).mono (by intro y hy _; simp at hy ⊢; rcases hy with hy | hy; exact .inr hy; exact .inl hy)
  have hbl := h.blk.lt
  have apE : ∀ {t : TypeId} {q : Sh} {n : Nat} {xs : List Value}, Own w t n q xs → t ≠ 3 → t ≠ 89 → ∀ y ∈ blkOf q, y ∉ (b :: blkOf qc) := by
    intro t q n xs ho h1 h2 y hy hm
    rcases List.mem_cons.mp hm with rfl | hm
    · exact h.blk.notin ho h2.symm hy
    · exact ho.apart h.oc h1 y hy hm
  have hp2 : b ∉ blkOf q' := fun hm => by
    rcases n1 b hm with hh | hh
    · exact hpn hh
    · omega
  refine ⟨q', w1, w2, e1, s2, ⟨b2, h.oa.fr F (apE h.oa (by decide) (by decide)), o1.fr f2 (fun y hy hm => by simp at hm; subst hm; exact hp2 hy), h.ob.fr F (apE h.ob (by decide) (by decide)), h.op.fr F (apE h.op (by decide) (by decide)), by simp, h.ra, fun y hy => ?_, h.rb, h.rp⟩, F⟩
  · rcases n1 y hy with hh | hh
    · exact h.rc y hh
    · omega

/-- one part more -/
theorem Bl2.pushP (h : Bl2 w b qa qc qb qp la lc lb es next count) (e : PE) (ok : PeOk w (fun y => b ≤ y) e) (hl : es.length ≤ 1000) :
    ∃ qp' w1 w2, callB Try.prog .append #[77, 77] 77 #[false, false] #[.slice qp.1 qp.2.1 qp.2.2, .slice (some ⟨w.heap.size, 0, none⟩) 1 1] (w.alloc (.cells #[.int .i64 e.v.ld, .int .i64 e.v.ep, .int .i64 e.v.vr, .slice e.qi.1 e.qi.2.1 e.qi.2.2, .slice e.qr.1 e.qr.2.1 e.qr.2.2, .slice e.qt.1 e.qt.2.1 e.qt.2.2] 30)) = some (.slice qp'.1 qp'.2.1 qp'.2.2, w1) ∧
      st1 w1 ⟨b, 3, none⟩ (.slice qp'.1 qp'.2.1 qp'.2.2) = some w2 ∧ Bl2 w2 b qa qc qb qp' la lc lb (es ++ [e]) next count ∧ Fr (b :: blkOf qp) w w2 := by
  have hml : maxLen = 9223372036854775807 := by decide
  have hpl := h.op.len
  rw [ptCs_len] at hpl
  obtain ⟨q', w1, e1, o1, f1, n1, l1⟩ := app_one t77 (w := w) h.op (ys := e.cs) rfl (pecs_oc e) (by omega) (by omega) 77 #[false, false]
  have hpn := h.blk.notin h.op (by decide)
  have b1 := h.blk.fr f1 hpn
  have s2 : st1 w1 ⟨b, 3, none⟩ (.slice q'.1 q'.2.1 q'.2.2) = some (w1.setCell ⟨b, 3, none⟩ (.slice q'.1 q'.2.1 q'.2.2)) := b1.st1 (by simp) rfl
  have b2 := b1.set 3 (.slice q'.1 q'.2.1 q'.2.2)
  have f2 : Fr [b] w1 (w1.setCell ⟨b, 3, none⟩ (.slice q'.1 q'.2.1 q'.2.2)) := Fr.setCell
  obtain ⟨w2, hw2⟩ : ∃ w2, w1.setCell ⟨b, 3, none⟩ (.slice q'.1 q'.2.1 q'.2.2) = w2 := ⟨_, rfl⟩
  rw [hw2] at s2 b2 f2
  have F : Fr (b :: blkOf qp) w w2 := (f1.app f2).mono (by intro y hy _; simp at hy ⊢; rcases hy with hy | hy; exact .inr hy; exact .inl hy)
  have hbl := h.blk.lt
  have apE : ∀ {t : TypeId} {q : Sh} {n : Nat} {xs : List Value}, Own w t n q xs → t ≠ 30 → t ≠ 89 → ∀ y ∈ blkOf q, y ∉ (b :: blkOf qp) := by
    intro t q n xs ho h1 h2 y hy hm
    rcases List.mem_cons.mp hm with rfl | hm
    · exact h.blk.notin ho h2.symm hy
    · exact ho.apart h.op h1 y hy hm
  have peE : ∀ {e : PE}, PeOk w (fun y => b ≤ y) e → PeOk w2 (fun y => b ≤ y) e := by
    intro e ok
    exact ok.fr F (fun y hy => ⟨fun hm => apE ok.oi (by decide) (by decide) y hm hy, fun hm => apE ok.or_ (by decide) (by decide) y hm hy, fun hm => apE ok.ot (by decide) (by decide) y hm hy⟩) (fun _ => id)
  have hp2 : b ∉ blkOf q' := fun hm => by
    rcases n1 b hm with hh | hh
    · exact hpn hh
    · omega
  refine ⟨q', w1, w2, e1, s2, ⟨b2, h.oa.fr F (apE h.oa (by decide) (by decide)), h.oc.fr F (apE h.oc (by decide) (by decide)), h.ob.fr F (apE h.ob (by decide) (by decide)), ?_, fun e' he' => ?_, h.ra, h.rc, h.rb, fun y hy => ?_⟩, F⟩
  · have : ptCs (es ++ [e]) = ptCs es ++ e.cs := by unfold ptCs; simp
    rw [this]
    exact o1.fr f2 (fun y hy hm => by simp at hm; subst hm; exact hp2 hy)
  · rcases List.mem_append.mp he' with he' | he'
    · exact peE (h.ok e' he')
    · simp at he'; subst he'; exact peE ok
  · rcases n1 y hy with hh | hh
    · exact h.rp y hh
    · omega
end
end Go.Proofs.Ytjcenfgmpbeldaa

namespace Go.Proofs.Ytjcenfgmpbeldaa
open Go Go.Ev
set_option maxRecDepth 100000
set_option linter.unusedVariables false
set_option linter.unusedSimpArgs false

theorem rises61 {w : World} {b : Nat} {qa : Sh} {n : Nat} (hc : ∃ cs T, Blk w b (Value.slice qa.1 qa.2.1 qa.2.2 :: cs) T) (hn : qa.2.1 = n) {u : Sh} {l : List Int} (hu : SlI .i64 w u l) (hl : l.length ≤ 1000000000) :
    ∃ w', callF Try.prog 61 #[.pointer (some ⟨b, 0, none⟩), .slice u.1 u.2.1 u.2.2] w = some (.bool (decide (sortedI n l)), w') ∧ Fr [] w w' := by
  obtain ⟨cs, T, hB⟩ := hc
  have hq := hu.1
  by_cases h0 : l = []
  · have k0 : ((u.2.1 : Int) == 0) = true := by rw [h0] at hq; simp at hq ⊢; omega
    refine ⟨w, g61_call ?_, Fr.refl _ _⟩
    have : decide (sortedI n l) = false := decide_eq_false (fun hh => hh.1 h0)
    rw [this]
    unfold g61
    simp only [k0, if_true]
  have k0 : ((u.2.1 : Int) == 0) = false := by have := List.length_pos_iff.mpr h0; simp; omega
  obtain ⟨e, t, w', g1, hF, hQ⟩ := loopS_rule (b := g61_l2_b u (some ⟨b, 0, none⟩))
    (I := fun k s x => Fr [] w x ∧ ∃ last : Int, s = (false, last, (k : Int)) ∧ upB n (-1) l = upB n last (l.drop k))
    (Q := fun e s x => Fr [] w x ∧ (e = .ret ∧ s.1 = false ∧ upB n (-1) l = false ∨ e = .exit 0 ∧ upB n (-1) l = true)) (n := l.length)
    (fun k s x hk ⟨hx, last, hs, h3⟩ => by
      subst hs
      have fd : Fr [] x x.drew := Fr.drew [] x
      have fx := hx.app fd
      simp only [List.append_nil] at fx
      obtain ⟨a, i1, c1⟩ := (hu.fr2 fx (by simp)).get hk
      have c0 : x.drew.cell? ⟨b, 0, none⟩ = some (.slice qa.1 qa.2.1 qa.2.2) := (hB.fr fx (by simp)).cell 0
      have k0 : decide ((k : Int) < (u.2.1 : Int)) = true := by simp; omega
      have hw := wrap_succ (n := k) (by omega)
      rw [List.drop_eq_getElem_cons hk, upB] at h3
      by_cases n0 : l[k] ≤ last
      · have k1 : decide (l[k] ≤ last) = true := by simp [n0]
        refine ⟨.ret, (false, last, (k : Int)), x.drew, ?_, .inr ⟨by simp, fx, .inl ⟨rfl, rfl, ?_⟩⟩⟩
        · unfold g61_l2_b
          simp only [k0, i1, c1, k1, obs, asP_pointer, asB_bool, asI_int, asS_string, asSl_slice, asM_map, asTup0, asTup1, asTup2, asTup3, asTup4, asTup5, asTup6, asTup7, asTup8, asTup9, asAgg2, asAgg3, asAgg4, asAgg5, asAgg6, asAgg7, asAgg8, asAgg9, asAgg12, getD0, getD1, getD2, getD3, getD4, getD5, getD6, getD7, getD8, getD9, getD10, getD11, getD12, getD13, getD14, getD15, getD16, getD17, getD18, getD19, Bool.not_true, Bool.not_false, Bool.false_eq_true, Bool.true_eq_false, ↓reduceIte, decide_true, decide_false, Option.isNone_some, Option.isNone_none, Option.isSome_some, Option.isSome_none, beq_self_eq_true, bne_self_eq_false, Bool.and_true, Bool.true_and, Bool.and_false, Bool.false_and, not_true_eq_false, not_false_eq_true]
        · rw [h3]
          have : decide (last < l[k] ∧ l[k] < (n : Int)) = false := by simp; omega
          rw [this, Bool.false_and]
      have k1 : decide (l[k] ≤ last) = false := by simp; omega
      by_cases n1 : l[k] ≥ (qa.2.1 : Int)
      · have k2 : decide (l[k] ≥ (qa.2.1 : Int)) = true := by simp; omega
        refine ⟨.ret, (false, last, (k : Int)), x.drew, ?_, .inr ⟨by simp, fx, .inl ⟨rfl, rfl, ?_⟩⟩⟩
        · unfold g61_l2_b
          simp only [k0, i1, c1, k1, c0, k2, obs, asP_pointer, asB_bool, asI_int, asS_string, asSl_slice, asM_map, asTup0, asTup1, asTup2, asTup3, asTup4, asTup5, asTup6, asTup7, asTup8, asTup9, asAgg2, asAgg3, asAgg4, asAgg5, asAgg6, asAgg7, asAgg8, asAgg9, asAgg12, getD0, getD1, getD2, getD3, getD4, getD5, getD6, getD7, getD8, getD9, getD10, getD11, getD12, getD13, getD14, getD15, getD16, getD17, getD18, getD19, Bool.not_true, Bool.not_false, Bool.false_eq_true, Bool.true_eq_false, ↓reduceIte, decide_true, decide_false, Option.isNone_some, Option.isNone_none, Option.isSome_some, Option.isSome_none, beq_self_eq_true, bne_self_eq_false, Bool.and_true, Bool.true_and, Bool.and_false, Bool.false_and, not_true_eq_false, not_false_eq_true]
        · rw [h3]
          have : decide (last < l[k] ∧ l[k] < (n : Int)) = false := by simp; omega
          rw [this, Bool.false_and]
      have k2 : decide (l[k] ≥ (qa.2.1 : Int)) = false := by simp; omega
      refine ⟨.normal, (false, l[k], ((k + 1 : Nat) : Int)), x.drew, ?_, .inl ⟨rfl, fx, l[k], rfl, ?_⟩⟩
      · unfold g61_l2_b
        simp only [k0, i1, c1, k1, c0, k2, hw, obs, asP_pointer, asB_bool, asI_int, asS_string, asSl_slice, asM_map, asTup0, asTup1, asTup2, asTup3, asTup4, asTup5, asTup6, asTup7, asTup8, asTup9, asAgg2, asAgg3, asAgg4, asAgg5, asAgg6, asAgg7, asAgg8, asAgg9, asAgg12, getD0, getD1, getD2, getD3, getD4, getD5, getD6, getD7, getD8, getD9, getD10, getD11, getD12, getD13, getD14, getD15, getD16, getD17, getD18, getD19, Bool.not_true, Bool.not_false, Bool.false_eq_true, Bool.true_eq_false, ↓reduceIte, decide_true, decide_false, Option.isNone_some, Option.isNone_none, Option.isSome_some, Option.isSome_none, beq_self_eq_true, bne_self_eq_false, Bool.and_true, Bool.true_and, Bool.and_false, Bool.false_and, not_true_eq_false, not_false_eq_true]
      · rw [h3]
        have : decide (last < l[k] ∧ l[k] < (n : Int)) = true := by simp; omega
        rw [this, Bool.true_and])
    (fun s x ⟨hx, last, hs, h3⟩ => by
      subst hs
      refine ⟨.exit 0, (false, last, (l.length : Int)), x, ?_, by simp, hx, .inr ⟨rfl, ?_⟩⟩
      · have kk : decide ((l.length : Int) < (u.2.1 : Int)) = false := by simp; omega
        unfold g61_l2_b
        simp only [kk, Bool.false_eq_true, if_false]
      · rw [h3, List.drop_length]; rfl) (k := 0) (s := (false, -1, 0)) (w := w) (Nat.zero_le _) ⟨Fr.refl _ _, -1, rfl, rfl⟩
  rcases hQ with ⟨rfl, hs, hno⟩ | ⟨rfl, hall⟩
  · have : decide (sortedI n l) = false := decide_eq_false (fun hh => by rw [hh.2] at hno; cases hno)
    rw [this]
    refine ⟨w', g61_call ?_, hF⟩
    unfold g61
    simp only [k0, obs, asP_pointer, asB_bool, asI_int, asS_string, asSl_slice, asM_map, asTup0, asTup1, asTup2, asTup3, asTup4, asTup5, asTup6, asTup7, asTup8, asTup9, asAgg2, asAgg3, asAgg4, asAgg5, asAgg6, asAgg7, asAgg8, asAgg9, asAgg12, getD0, getD1, getD2, getD3, getD4, getD5, getD6, getD7, getD8, getD9, getD10, getD11, getD12, getD13, getD14, getD15, getD16, getD17, getD18, getD19, Bool.not_true, Bool.not_false, Bool.false_eq_true, Bool.true_eq_false, ↓reduceIte, decide_true, decide_false, Option.isNone_some, Option.isNone_none, Option.isSome_some, Option.isSome_none, beq_self_eq_true, bne_self_eq_false, Bool.and_true, Bool.true_and, Bool.and_false, Bool.false_and, not_true_eq_false, not_false_eq_true]
    rw [g61_l2_ret_of g1, g61_l2_ret, hs]
  · have : decide (sortedI n l) = true := decide_eq_true ⟨h0, hall⟩
    rw [this]
    refine ⟨w', g61_call ?_, hF⟩
    unfold g61
    simp only [k0, obs, asP_pointer, asB_bool, asI_int, asS_string, asSl_slice, asM_map, asTup0, asTup1, asTup2, asTup3, asTup4, asTup5, asTup6, asTup7, asTup8, asTup9, asAgg2, asAgg3, asAgg4, asAgg5, asAgg6, asAgg7, asAgg8, asAgg9, asAgg12, getD0, getD1, getD2, getD3, getD4, getD5, getD6, getD7, getD8, getD9, getD10, getD11, getD12, getD13, getD14, getD15, getD16, getD17, getD18, getD19, Bool.not_true, Bool.not_false, Bool.false_eq_true, Bool.true_eq_false, ↓reduceIte, decide_true, decide_false, Option.isNone_some, Option.isNone_none, Option.isSome_some, Option.isSome_none, beq_self_eq_true, bne_self_eq_false, Bool.and_true, Bool.true_and, Bool.and_false, Bool.false_and, not_true_eq_false, not_false_eq_true]
    rw [g61_l2_x0_of g1, g61_l2_x0]
end Go.Proofs.Ytjcenfgmpbeldaa

namespace Go.Proofs.Ytjcenfgmpbeldaa
open Go Go.Ev
set_option maxRecDepth 100000
set_option linter.unusedVariables false
set_option linter.unusedSimpArgs false

/-- the document's image under way, and its reader -/
structure RC (W w : World) (p : Nat) (q : ShT) (s : RS) (qa qc qb qp : Sh) (la lc lb : List Value) (es : List PE) (next count : Int) : Prop where
  bld : Bl2 w W.heap.size qa qc qb qp la lc lb es next count
  rd : Rdr 101 w p q s
  fr : Fr [p] W w
  pl : p < W.heap.size
  ql : 0 < q.2.1 → ∀ y ∈ blkOf q, y < W.heap.size

section
variable {W w : World} {p : Nat} {q : ShT} {s : RS} {qa qc qb qp : Sh} {la lc lb : List Value} {es : List PE} {next count : Int}
theorem RC.step (h : RC W w p q s qa qc qb qp la lc lb es next count) {w' : World} {s' : RS} (r : Rdr 101 w' p q s') (f : Fr [p] w w') : RC W w' p q s' qa qc qb qp la lc lb es next count :=
  ⟨h.bld.fr f (by intro y hy; simp at hy; subst hy; exact h.pl), r, fr1 h.fr f, h.pl, h.ql⟩
theorem RC.aside (h : RC W w p q s qa qc qb qp la lc lb es next count) {w' : World} (f : Fr [] w w') : RC W w' p q s qa qc qb qp la lc lb es next count :=
  h.step (h.rd.fr f (by simp) (by simp)) (f.mono (by simp))
theorem RC.build {S : List Nat} (h : RC W w p q s qa qc qb qp la lc lb es next count) {w' : World} {qa' qc' qb' qp' : Sh} {la' lc' lb' : List Value} {es' : List PE} {next' count' : Int} (b : Bl2 w' W.heap.size qa' qc' qb' qp' la' lc' lb' es' next' count') (f : Fr S w w') (hS : ∀ y ∈ S, W.heap.size ≤ y) : RC W w' p q s qa' qc' qb' qp' la' lc' lb' es' next' count' :=
  ⟨b, h.rd.fr f (fun hm => by have := hS p hm; have := h.pl; omega) (fun h0 y hy hm => by have := hS y hm; have := h.ql h0 y hy; omega),
    (h.fr.app f).mono (by intro y hy hlt; simp at hy ⊢; rcases hy with hy | hy; exact hy; have := hS y hy; omega), h.pl, h.ql⟩
theorem RC.int (h : RC W w p q s qa qc qb qp la lc lb es next count) : ∃ w', callF Try.prog 52 #[.pointer (some ⟨p, 0, none⟩)] w = some (.int .i64 (intS s).1, w') ∧ RC W w' p q (intS s).2 qa qc qb qp la lc lb es next count ∧ Fr [p] w w' := by
  obtain ⟨w', e, R, f⟩ := int45 h.rd
  exact ⟨w', e, h.step R f, f⟩
theorem RC.uint (h : RC W w p q s qa qc qb qp la lc lb es next count) : ∃ w', callF Try.prog 59 #[.pointer (some ⟨p, 0, none⟩)] w = some (.int .u64 ((uintS s).1 : Int), w') ∧ RC W w' p q (uintS s).2 qa qc qb qp la lc lb es next count ∧ Fr [p] w w' := by
  obtain ⟨w', e, R, f⟩ := uint46 h.rd
  exact ⟨w', e, h.step R f, f⟩
theorem RC.flag (h : RC W w p q s qa qc qb qp la lc lb es next count) : ∃ w', callF Try.prog 60 #[.pointer (some ⟨p, 0, none⟩)] w = some (.bool (flagS s).1, w') ∧ RC W w' p q (flagS s).2 qa qc qb qp la lc lb es next count ∧ Fr [p] w w' := by
  obtain ⟨w', e, R, f⟩ := flag48 h.rd
  exact ⟨w', e, h.step R f, f⟩
theorem RC.k0 (h : RC W w p q s qa qc qb qp la lc lb es next count) : w.cell? ⟨W.heap.size, 0, none⟩ = some (.slice qa.1 qa.2.1 qa.2.2) := h.bld.blk.cell 0
theorem RC.k1 (h : RC W w p q s qa qc qb qp la lc lb es next count) : w.cell? ⟨W.heap.size, 1, none⟩ = some (.slice qc.1 qc.2.1 qc.2.2) := h.bld.blk.cell 1
theorem RC.k2 (h : RC W w p q s qa qc qb qp la lc lb es next count) : w.cell? ⟨W.heap.size, 2, none⟩ = some (.slice qb.1 qb.2.1 qb.2.2) := h.bld.blk.cell 2
theorem RC.k3 (h : RC W w p q s qa qc qb qp la lc lb es next count) : w.cell? ⟨W.heap.size, 3, none⟩ = some (.slice qp.1 qp.2.1 qp.2.2) := h.bld.blk.cell 3
theorem RC.k4 (h : RC W w p q s qa qc qb qp la lc lb es next count) : w.cell? ⟨W.heap.size, 4, none⟩ = some (.int .u64 next) := h.bld.blk.cell 4
theorem RC.k5 (h : RC W w p q s qa qc qb qp la lc lb es next count) : w.cell? ⟨W.heap.size, 5, none⟩ = some (.int .i64 count) := h.bld.blk.cell 5
end

section
variable {w0 W w : World} {u0 : ShT} {s : RS} {qa qc qb qp : Sh} {la lc lb : List Value} {es : List PE} {next count : Int}

/-- one node is read -/
theorem ref_node (hW : w0.alloc (.cells #[.slice u0.1 u0.2.1 u0.2.2, .int .i64 0, .int .i64 0] 101) = W) (h : RC W w w0.heap.size u0 s qa qc qb qp la lc lb [] next count) {k n : Nat} (hk : k < n) (hn : n ≤ 5) (h1 : la.length ≤ 1000) (h2 : lc.length ≤ 1000) (h3 : lb.length ≤ 1000) :
    ∃ qa' qc' qb' w', g31_l5_b (n : Int) w0 u0 (k : Int) w = some (.normal, ((k + 1 : Nat) : Int), w') ∧ RC W w' w0.heap.size u0 (rdNode s).2 qa' qc' qb' qp (la ++ [.bool (rdNode s).1.al]) (lc ++ [.int .i64 (rdNode s).1.cm]) (lb ++ [.int .u64 (rdNode s).1.bk]) [] next count := by
  have hS : ∀ {q : Sh}, (∀ y ∈ blkOf q, W.heap.size ≤ y) → ∀ y ∈ W.heap.size :: blkOf q, W.heap.size ≤ y := fun hq y hy => by
    rcases List.mem_cons.mp hy with rfl | hy
    · exact Nat.le_refl _
    · exact hq y hy
  have i0 := h.aside (Fr.drew [] w)
  obtain ⟨w1, e1, i1, f1⟩ := i0.flag
  have i1' := i1.aside (Fr.alloc (.cells #[.bool (flagS s).1] 4))
  obtain ⟨qa', x1, w2, a1, s1, B1, F1⟩ := i1.bld.pushA (flagS s).1 h1
  have i2 := i1.build B1 F1 (hS i1.bld.ra)
  have i3 := i2.aside (Fr.drew [] w2)
  obtain ⟨w4, e4, i4, f4⟩ := i3.int
  have i4' := i4.aside (Fr.alloc (.cells #[.int .i64 (intS (flagS s).2).1] 3))
  obtain ⟨qc', x2, w5, a2, s2, B2, F2⟩ := i4.bld.pushC (intS (flagS s).2).1 h2
  have i5 := i4.build B2 F2 (hS i4.bld.rc)
  have i6 := i5.aside (Fr.drew [] w5)
  obtain ⟨w7, e7, i7, f7⟩ := i6.uint
  have i7' := i7.aside (Fr.alloc (.cells #[.int .u64 ((uintS (intS (flagS s).2).2).1 : Int)] 38))
  obtain ⟨qb', x3, w8, a3, s3, B3, F3⟩ := i7.bld.pushB ((uintS (intS (flagS s).2).2).1 : Int) h3
  have i8 := i7.build B3 F3 (hS i7.bld.rb)
  refine ⟨qa', qc', qb', w8, ?_, i8⟩
  have kw := wrap_succ (n := k) (by omega)
  have wn : IntKind.i64.wrap (n : Int) = (n : Int) := wrap_i64 (by omega) (by omega)
  have kk : decide ((k : Int) < IntKind.i64.wrap (n : Int)) = true := by rw [wn]; simp; omega
  have J94 : ∀ x31 x32 q35 x64 x65 q68 w72, g31_j94 w0 u0 (n : Int) (k : Int) x31 x32 q35 x64 x65 q68 w72 qb (some ⟨w7.heap.size, 0, none⟩, 1, 1) (w7.alloc (.cells #[.int .u64 ((uintS (intS (flagS s).2).2).1 : Int)] 38)) = some (.normal, ((k + 1 : Nat) : Int), w8) := by
    intro x31 x32 q35 x64 x65 q68 w72
    unfold g31_j94
    simp only [hW, addr_add, Nat.zero_add, a3, s3, kw, obs, asP_pointer, asB_bool, asI_int, asS_string, asSl_slice, asM_map, asTup0, asTup1, asTup2, asTup3, asTup4, asTup5, asTup6, asTup7, asTup8, asTup9, asAgg2, asAgg3, asAgg4, asAgg5, asAgg6, asAgg7, asAgg8, asAgg9, asAgg12, getD0, getD1, getD2, getD3, getD4, getD5, getD6, getD7, getD8, getD9, getD10, getD11, getD12, getD13, getD14, getD15, getD16, getD17, getD18, getD19, Bool.not_true, Bool.not_false, Bool.false_eq_true, Bool.true_eq_false, ↓reduceIte, decide_true, decide_false, Option.isNone_some, Option.isNone_none, Option.isSome_some, Option.isSome_none, beq_self_eq_true, bne_self_eq_false, Bool.and_true, Bool.true_and, Bool.and_false, Bool.false_and, not_true_eq_false, not_false_eq_true]
  have J87 : ∀ x31 x32 q35 x64 x65 q68 w72, g31_j87 w0 u0 (n : Int) (k : Int) x31 x32 q35 x64 x65 q68 w72 qb ((uintS (intS (flagS s).2).2).1 : Int) w7 = some (.normal, ((k + 1 : Nat) : Int), w8) := fun x31 x32 q35 x64 x65 q68 w72 => J94 x31 x32 q35 x64 x65 q68 w72
  have J61 : ∀ x31 x32 q35 w39, g31_j61 w0 u0 (n : Int) (k : Int) x31 x32 q35 w39 qc (some ⟨w4.heap.size, 0, none⟩, 1, 1) (w4.alloc (.cells #[.int .i64 (intS (flagS s).2).1] 3)) = some (.normal, ((k + 1 : Nat) : Int), w8) := by
    intro x31 x32 q35 w39
    unfold g31_j61
    simp only [hW, addr_add, Nat.zero_add, a2, s2, i6.k2, e7, i7.k2, i7'.k2, J87, J94, ite_self, obs, asP_pointer, asB_bool, asI_int, asS_string, asSl_slice, asM_map, asTup0, asTup1, asTup2, asTup3, asTup4, asTup5, asTup6, asTup7, asTup8, asTup9, asAgg2, asAgg3, asAgg4, asAgg5, asAgg6, asAgg7, asAgg8, asAgg9, asAgg12, getD0, getD1, getD2, getD3, getD4, getD5, getD6, getD7, getD8, getD9, getD10, getD11, getD12, getD13, getD14, getD15, getD16, getD17, getD18, getD19, Bool.not_true, Bool.not_false, Bool.false_eq_true, Bool.true_eq_false, ↓reduceIte, decide_true, decide_false, Option.isNone_some, Option.isNone_none, Option.isSome_some, Option.isSome_none, beq_self_eq_true, bne_self_eq_false, Bool.and_true, Bool.true_and, Bool.and_false, Bool.false_and, not_true_eq_false, not_false_eq_true]
  have J54 : ∀ x31 x32 q35 w39, g31_j54 w0 u0 (n : Int) (k : Int) x31 x32 q35 w39 qc (intS (flagS s).2).1 w4 = some (.normal, ((k + 1 : Nat) : Int), w8) := fun x31 x32 q35 w39 => J61 x31 x32 q35 w39
  have J28 : ∀ w7', g31_j28 w0 u0 (n : Int) (k : Int) w7' qa (some ⟨w1.heap.size, 0, none⟩, 1, 1) (w1.alloc (.cells #[.bool (flagS s).1] 4)) = some (.normal, ((k + 1 : Nat) : Int), w8) := by
    intro w7'
    unfold g31_j28
    simp only [hW, addr_add, Nat.zero_add, a1, s1, i3.k1, e4, i4.k1, i4'.k1, J61, J54, ite_self, obs, asP_pointer, asB_bool, asI_int, asS_string, asSl_slice, asM_map, asTup0, asTup1, asTup2, asTup3, asTup4, asTup5, asTup6, asTup7, asTup8, asTup9, asAgg2, asAgg3, asAgg4, asAgg5, asAgg6, asAgg7, asAgg8, asAgg9, asAgg12, getD0, getD1, getD2, getD3, getD4, getD5, getD6, getD7, getD8, getD9, getD10, getD11, getD12, getD13, getD14, getD15, getD16, getD17, getD18, getD19, Bool.not_true, Bool.not_false, Bool.false_eq_true, Bool.true_eq_false, ↓reduceIte, decide_true, decide_false, Option.isNone_some, Option.isNone_none, Option.isSome_some, Option.isSome_none, beq_self_eq_true, bne_self_eq_false, Bool.and_true, Bool.true_and, Bool.and_false, Bool.false_and, not_true_eq_false, not_false_eq_true]
  have J21 : ∀ w7', g31_j21 w0 u0 (n : Int) (k : Int) w7' qa (flagS s).1 w1 = some (.normal, ((k + 1 : Nat) : Int), w8) := fun w7' => J28 w7'
  unfold g31_l5_b
  simp only [kk, hW, i0.k0, e1, i1.k0, i1'.k0, J28, J21, ite_self, obs, asP_pointer, asB_bool, asI_int, asS_string, asSl_slice, asM_map, asTup0, asTup1, asTup2, asTup3, asTup4, asTup5, asTup6, asTup7, asTup8, asTup9, asAgg2, asAgg3, asAgg4, asAgg5, asAgg6, asAgg7, asAgg8, asAgg9, asAgg12, getD0, getD1, getD2, getD3, getD4, getD5, getD6, getD7, getD8, getD9, getD10, getD11, getD12, getD13, getD14, getD15, getD16, getD17, getD18, getD19, Bool.not_true, Bool.not_false, Bool.false_eq_true, Bool.true_eq_false, ↓reduceIte, decide_true, decide_false, Option.isNone_some, Option.isNone_none, Option.isSome_some, Option.isSome_none, beq_self_eq_true, bne_self_eq_false, Bool.and_true, Bool.true_and, Bool.and_false, Bool.false_and, not_true_eq_false, not_false_eq_true]
end
end Go.Proofs.Ytjcenfgmpbeldaa

namespace Go.Proofs.Ytjcenfgmpbeldaa
open Go Go.Ev
set_option maxRecDepth 100000
set_option linter.unusedVariables false
set_option linter.unusedSimpArgs false

/-- the reader, and a part being filled -/
structure RP (w : World) (p : Nat) (q : ShT) (s : RS) (pb : Nat) (cs : List Value) : Prop where
  rd : Rdr 101 w p q s
  pt : Blk w pb cs 30
  ne : p ≠ pb
  qn : 0 < q.2.1 → ∀ y ∈ blkOf q, y ≠ pb
section
variable {w : World} {p pb : Nat} {q : ShT} {s : RS} {cs : List Value}
theorem RP.op (h : RP w p q s pb cs) {w' : World} {s' : RS} (r : Rdr 101 w' p q s') (f : Fr [p] w w') : RP w' p q s' pb cs := ⟨r, h.pt.fr f (by simp; exact fun e => h.ne e.symm), h.ne, h.qn⟩
theorem RP.put (h : RP w p q s pb cs) {i : Nat} (hi : i < cs.length) {v : Value} (hv : v.oneCell' = true) : ∃ w', st1 w ⟨pb, i, none⟩ v = some w' ∧ RP w' p q s pb (cs.set i v) ∧ Fr [pb] w w' := by
  obtain ⟨w', e, b, f⟩ := blk_put h.pt hi hv
  exact ⟨w', e, ⟨h.rd.fr f (by simp; exact h.ne) (fun h0 y hy hm => by simp at hm; exact h.qn h0 y hy hm), b, h.ne, h.qn⟩, f⟩
theorem RP.int (h : RP w p q s pb cs) {i : Nat} (hi : i < cs.length) : ∃ w1 w2, callF Try.prog 52 #[.pointer (some ⟨p, 0, none⟩)] w = some (.int .i64 (intS s).1, w1) ∧ st1 w1 ⟨pb, i, none⟩ (.int .i64 (intS s).1) = some w2 ∧ RP w2 p q (intS s).2 pb (cs.set i (.int .i64 (intS s).1)) ∧ Fr [p, pb] w w2 := by
  obtain ⟨w1, e1, R1, f1⟩ := int45 h.rd
  obtain ⟨w2, e2, h2, f2⟩ := (h.op R1 f1).put hi (v := .int .i64 (intS s).1) rfl
  exact ⟨w1, w2, e1, e2, h2, (f1.app f2).mono (by intro y hy _; simpa using hy)⟩
theorem RP.ints (h : RP w p q s pb cs) {i : Nat} (hi : i < cs.length) : ∃ v w1 w2, callF Try.prog 53 #[.pointer (some ⟨p, 0, none⟩)] w = some (.slice v.1 v.2.1 v.2.2, w1) ∧ st1 w1 ⟨pb, i, none⟩ (.slice v.1 v.2.1 v.2.2) = some w2 ∧ RP w2 p q (intsS s).2 pb (cs.set i (.slice v.1 v.2.1 v.2.2)) ∧ Fr [p, pb] w w2 ∧
    Own w2 3 1 v (intsV' (intsS s).1) ∧ ∀ y ∈ blkOf v, w.heap.size ≤ y := by
  obtain ⟨v, w1, e1, o1, R1, f1, n1⟩ := ints47 h.rd
  obtain ⟨w2, e2, h2, f2⟩ := (h.op R1 f1).put hi (v := .slice v.1 v.2.1 v.2.2) rfl
  have hpl := h.pt.lt
  exact ⟨v, w1, w2, e1, e2, h2, (f1.app f2).mono (by intro y hy _; simpa using hy), o1.fr f2 (fun y hy hm => by simp at hm; subst hm; have := n1 _ hy; omega), n1⟩
end

section
variable {w0 W w : World} {u0 : ShT} {s : RS} {qa qc qb qp : Sh} {la lc lb : List Value} {es : List PE} {next count : Int}

/-- one part is read -/
theorem ref_part (hW : w0.alloc (.cells #[.slice u0.1 u0.2.1 u0.2.2, .int .i64 0, .int .i64 0] 101) = W) (h : RC W w w0.heap.size u0 s qa qc qb qp la lc lb es next count) {k n : Nat} (hk : k < n) (hn : n ≤ 6) (hl : es.length ≤ 1000) :
    ∃ qp' e w', g31_l116_b (n : Int) w0 u0 (k : Int) w = some (.normal, ((k + 1 : Nat) : Int), w') ∧ RC W w' w0.heap.size u0 (rdPart s).2 qa qc qb qp' la lc lb (es ++ [e]) next count ∧ e.v = (rdPart s).1 := by
  obtain ⟨b0, f0⟩ := zero30 w
  have hsz := h.fr.size
  have hpl := h.pl
  obtain ⟨w1, hw1⟩ : ∃ w1, w.alloc (.cells #[.int .i64 0, .int .i64 0, .int .i64 0, .slice none 0 0, .slice none 0 0, .slice none 0 0] 30) = w1 := ⟨_, rfl⟩
  rw [hw1] at b0 f0
  have i1 : RP w1 w0.heap.size u0 s w.heap.size _ := ⟨h.rd.fr f0 (by simp) (by simp), b0, by omega, fun h0 y hy => by have := h.ql h0 y hy; omega⟩
  obtain ⟨y2, w2, e2, s2, i2, f2⟩ := i1.int (i := 0) (by decide)
  obtain ⟨y3, w3, e3, s3, i3, f3⟩ := i2.int (i := 1) (by simp [PV.cs])
  obtain ⟨y4, w4, e4, s4, i4, f4⟩ := i3.int (i := 2) (by simp [PV.cs])
  obtain ⟨q5, y5, w5, e5, s5, i5, f5, o5, n5⟩ := i4.ints (i := 3) (by simp [PV.cs])
  obtain ⟨q6, y6, w6, e6, s6, i6, f6, o6, n6⟩ := i5.ints (i := 4) (by simp [PV.cs])
  obtain ⟨q7, y7, w7, e7, s7, i7, f7, o7, n7⟩ := i6.ints (i := 5) (by simp [PV.cs])
  obtain ⟨hrd, hlen⟩ := rdPart_ok h.rd.ok
  obtain ⟨v, hv⟩ : ∃ v, (rdPart s).1 = v := ⟨_, rfl⟩
  rw [hv] at hlen
  have v1e : (intS s).1 = v.ld := by rw [← hv]; rfl
  have v2e : (intS (intS s).2).1 = v.ep := by rw [← hv]; rfl
  have v3e : (intS (intS (intS s).2).2).1 = v.vr := by rw [← hv]; rfl
  have v4e : (intsS (intS (intS (intS s).2).2).2).1 = v.isr := by rw [← hv]; rfl
  have v5e : (intsS (intsS (intS (intS (intS s).2).2).2).2).1 = v.rep := by rw [← hv]; rfl
  have v6e : (intsS (intsS (intsS (intS (intS (intS s).2).2).2).2).2).1 = v.tgt := by rw [← hv]; rfl
  have vse : (intsS (intsS (intsS (intS (intS (intS s).2).2).2).2).2).2 = (rdPart s).2 := rfl
  rw [v1e] at e2 s2
  rw [v2e] at e3 s3
  rw [v3e] at e4 s4
  rw [v4e] at o5
  rw [v5e] at o6
  rw [v6e] at o7
  have b7 : Blk w7 w.heap.size (v.cs q5 q6 q7) 30 := by have := i7.pt; rw [v1e, v2e, v3e] at this; exact this
  have z1 := f0.size
  have z2 := f2.size
  have z3 := f3.size
  have z4 := f4.size
  have z5 := f5.size
  have z6 := f6.size
  have nb : ∀ {qq : Sh} {x : World}, (∀ y ∈ blkOf qq, x.heap.size ≤ y) → w1.heap.size ≤ x.heap.size → ∀ y ∈ blkOf qq, y ∉ [w0.heap.size, w.heap.size] := fun hn hx y hy hm => by
    have := hn _ hy
    have := b0.lt
    simp at hm; rcases hm with rfl | rfl <;> omega
  have F27 : Fr [w0.heap.size] w w7 := by
    refine ((((((f0.app f2).app f3).app f4).app f5).app f6).app f7).mono ?_
    intro y hy hlt
    simp at hy ⊢
    omega
  have h7 := h.step (rdPart_ok h.rd.ok |>.1 |> fun _ => i7.rd) F27
  rw [vse] at h7
  have h8 := h7.aside (Fr.drew [] w7)
  have b8 := b7.fr (Fr.drew [] w7) (by simp)
  have l8 : ldN w7.drew ⟨w.heap.size, 0, none⟩ 0 6 = some (v.cs q5 q6 q7) := b8.ldN (n := 6) rfl
  simp only [PV.cs] at l8
  have ok8 : PeOk w7.drew (fun y => W.heap.size ≤ y) ⟨v, q5, q6, q7⟩ := ⟨((o5.fr f6 (nb n5 (by omega))).fr f7 (nb n5 (by omega))).fr (Fr.drew [] w7) (by simp), (o6.fr f7 (nb n6 (by omega))).fr (Fr.drew [] w7) (by simp), o7.fr (Fr.drew [] w7) (by simp), ⟨fun y hy => by have := n5 y hy; omega, fun y hy => by have := n6 y hy; omega, fun y hy => by have := n7 y hy; omega⟩, by show v.isr.length ≤ _ ∧ v.rep.length ≤ _ ∧ v.tgt.length ≤ _; omega⟩
  obtain ⟨qp', x9, w9, a9, s9, B9, F9⟩ := h8.bld.pushP ⟨v, q5, q6, q7⟩ ok8 hl
  have h9 := h8.build B9 F9 (by intro y hy; simp at hy; rcases hy with rfl | hy; exact Nat.le_refl _; exact h8.bld.rp y hy)
  have h8' := h8.aside (Fr.alloc (.cells #[.int .i64 v.ld, .int .i64 v.ep, .int .i64 v.vr, .slice q5.1 q5.2.1 q5.2.2, .slice q6.1 q6.2.1 q6.2.2, .slice q7.1 q7.2.1 q7.2.2] 30))
  refine ⟨qp', ⟨v, q5, q6, q7⟩, w9, ?_, h9, hv.symm⟩
  have kw := wrap_succ (n := k) (by omega)
  have wn : IntKind.i64.wrap (n : Int) = (n : Int) := wrap_i64 (by omega) (by omega)
  have kk : decide ((k : Int) < IntKind.i64.wrap (n : Int)) = true := by rw [wn]; simp; omega
  have J : ∀ w136 n142 n143 n144 q145 q146 q147 n120 n123 n126 q129 q132 q135, w136 = w7 → n142 = v.ld → n143 = v.ep → n144 = v.vr → q145 = q5 → q146 = q6 → q147 = q7 →
      g31_j153 w136 n142 n143 n144 q145 q146 q147 w0 u0 (n : Int) (k : Int) w n120 n123 n126 q129 q132 q135 qp = some (.normal, ((k + 1 : Nat) : Int), w9) := by
    rintro _ _ _ _ _ _ _ n120 n123 n126 q129 q132 q135 rfl rfl rfl rfl rfl rfl rfl
    unfold g31_j153
    simp only [hW, addr_add, Nat.zero_add, a9, s9, kw, obs, asP_pointer, asB_bool, asI_int, asS_string, asSl_slice, asM_map, asTup0, asTup1, asTup2, asTup3, asTup4, asTup5, asTup6, asTup7, asTup8, asTup9, asAgg2, asAgg3, asAgg4, asAgg5, asAgg6, asAgg7, asAgg8, asAgg9, asAgg12, getD0, getD1, getD2, getD3, getD4, getD5, getD6, getD7, getD8, getD9, getD10, getD11, getD12, getD13, getD14, getD15, getD16, getD17, getD18, getD19, Bool.not_true, Bool.not_false, Bool.false_eq_true, Bool.true_eq_false, ↓reduceIte, decide_true, decide_false, Option.isNone_some, Option.isNone_none, Option.isSome_some, Option.isSome_none, beq_self_eq_true, bne_self_eq_false, Bool.and_true, Bool.true_and, Bool.and_false, Bool.false_and, not_true_eq_false, not_false_eq_true]
  have J' := fun a b c d e f => J w7 v.ld v.ep v.vr q5 q6 q7 a b c d e f rfl rfl rfl rfl rfl rfl rfl
  unfold g31_l116_b
  simp only [kk, hW, hw1, addr_add, Nat.zero_add, e2, s2, e3, s3, e4, s4, e5, s5, e6, s6, e7, s7, l8, h8.k3, h8'.k3, J', ite_self, obs, asP_pointer, asB_bool, asI_int, asS_string, asSl_slice, asM_map, asTup0, asTup1, asTup2, asTup3, asTup4, asTup5, asTup6, asTup7, asTup8, asTup9, asAgg2, asAgg3, asAgg4, asAgg5, asAgg6, asAgg7, asAgg8, asAgg9, asAgg12, getD0, getD1, getD2, getD3, getD4, getD5, getD6, getD7, getD8, getD9, getD10, getD11, getD12, getD13, getD14, getD15, getD16, getD17, getD18, getD19, Bool.not_true, Bool.not_false, Bool.false_eq_true, Bool.true_eq_false, ↓reduceIte, decide_true, decide_false, Option.isNone_some, Option.isNone_none, Option.isSome_some, Option.isSome_none, beq_self_eq_true, bne_self_eq_false, Bool.and_true, Bool.true_and, Bool.and_false, Bool.false_and, not_true_eq_false, not_false_eq_true]
end
end Go.Proofs.Ytjcenfgmpbeldaa

namespace Go.Proofs.Ytjcenfgmpbeldaa
open Go Go.Ev
set_option maxRecDepth 100000
set_option linter.unusedVariables false
set_option linter.unusedSimpArgs false

section
variable {w0 W w : World} {u0 : ShT} {s : RS} {qa qc qb qp : Sh} {la lc lb : List Value} {es : List PE} {next count : Int}

theorem ref_sound_round (hW : w0.alloc (.cells #[.slice u0.1 u0.2.1 u0.2.2, .int .i64 0, .int .i64 0] 101) = W) (h : RC W w w0.heap.size u0 s qa qc qb qp la lc lb es next count) {k : Nat} (hk : k < es.length) (hel : es.length ≤ 1000) :
    ∃ w', g31_l188_b w0 u0 (none, 0, (k : Int)) w = some (if partOk la.length es[k].v then (.normal, (none, 0, ((k + 1 : Nat) : Int)), w') else (.ret, (none, 7, (k : Int)), w')) ∧ Fr [] w w' := by
  have hpl : qp.2.1 = es.length := by have := h.bld.op.len; rw [ptCs_len] at this; omega
  have hnn : qa.2.1 = la.length := by have := h.bld.oa.len; omega
  obtain ⟨g, off, qq, i1, rr, _⟩ := row_at (f := PE.cs) pef_len (by decide) h.bld.op (ptCs_len es) hk
  have ld : ldN w ⟨g, off + k * 6, none⟩ 0 6 = some (es[k].cs) := ldN_of_cells (cs := es[k].cs) (i := 0) fun i hi => by
    rw [addr_add, Nat.zero_add, rr i hi, List.getElem?_eq_getElem hi]
  have ok := h.bld.ok _ (List.getElem_mem hk)
  obtain ⟨e, he⟩ : ∃ e, es[k] = e := ⟨_, rfl⟩
  rw [he] at ld ok ⊢
  simp only [PE.cs, PV.cs] at ld
  obtain ⟨w1, s1, b1, f1, l1⟩ := newP w e.v e.qi e.qr e.qt
  have fd := Fr.drew [] w1
  obtain ⟨w2, hw2⟩ : ∃ w2, w1.drew = w2 := ⟨_, rfl⟩
  rw [hw2] at fd
  have F2 : Fr [] w w2 := (Fr.mono (Fr.app f1 fd) (by have z0_ := Fr.size f1; have z1_ := Fr.size fd; intro y_ hy_ hl_; grind [blkOf]))
  have b2 := b1.fr fd (by simp)
  have h2 := h.aside F2
  have ok2 := ok.fr F2 (by simp) (fun _ => id)
  have hlen := ok.len
  have hB : ∀ {x : World} {S : RS}, RC W x w0.heap.size u0 S qa qc qb qp la lc lb es next count → ∃ cs T, Blk x W.heap.size (Value.slice qa.1 qa.2.1 qa.2.2 :: cs) T := fun hx => ⟨_, _, hx.bld.blk⟩
  have c3 : w2.cell? ⟨w.heap.size, 3, none⟩ = some (.slice e.qi.1 e.qi.2.1 e.qi.2.2) := b2.cell 3
  obtain ⟨w3, e3, f3⟩ := rises61 (hB h2) hnn ok2.oi.slI (by omega)
  have h3 := h2.aside f3
  have b3 := b2.fr f3 (by simp)
  have F3 : Fr [] w w3 := (Fr.mono (Fr.app F2 f3) (by have z0_ := Fr.size F2; have z1_ := Fr.size f3; intro y_ hy_ hl_; grind [blkOf]))
  have ok3 := ok2.fr f3 (by simp) (fun _ => id)
  have c4 : w3.cell? ⟨w.heap.size, 4, none⟩ = some (.slice e.qr.1 e.qr.2.1 e.qr.2.2) := b3.cell 4
  obtain ⟨w4, e4, f4⟩ := rises61 (hB h3) hnn ok3.or_.slI (by omega)
  have h4 := h3.aside f4
  have b4 := b3.fr f4 (by simp)
  have F4 : Fr [] w w4 := (Fr.mono (Fr.app F3 f4) (by have z0_ := Fr.size F3; have z1_ := Fr.size f4; intro y_ hy_ hl_; grind [blkOf]))
  have ok4 := ok3.fr f4 (by simp) (fun _ => id)
  have c5 : w4.cell? ⟨w.heap.size, 5, none⟩ = some (.slice e.qt.1 e.qt.2.1 e.qt.2.2) := b4.cell 5
  obtain ⟨w5, e5, f5⟩ := rises61 (hB h4) hnn ok4.ot.slI (by omega)
  have h5 := h4.aside f5
  have b5 := b4.fr f5 (by simp)
  have F5 : Fr [] w w5 := (Fr.mono (Fr.app F4 f5) (by have z0_ := Fr.size F4; have z1_ := Fr.size f5; intro y_ hy_ hl_; grind [blkOf]))
  have hqt := ok2.ot.len
  simp only [intsV', List.length_map, Nat.mul_one] at hqt
  have k0 : decide ((k : Int) < (qp.2.1 : Int)) = true := by simp; omega
  have kw := wrap_succ (n := k) (by omega)
  have hk3 := h.k3
  have g40 := h4.k0
  have g50 := h5.k0
  have d40 : w4.cell? ⟨w.heap.size, 0, none⟩ = some (.int .i64 e.v.ld) := b4.cell 0
  have d41 : w4.cell? ⟨w.heap.size, 1, none⟩ = some (.int .i64 e.v.ep) := b4.cell 1
  have d42 : w4.cell? ⟨w.heap.size, 2, none⟩ = some (.int .i64 e.v.vr) := b4.cell 2
  have d50 : w5.cell? ⟨w.heap.size, 0, none⟩ = some (.int .i64 e.v.ld) := b5.cell 0
  have d51 : w5.cell? ⟨w.heap.size, 1, none⟩ = some (.int .i64 e.v.ep) := b5.cell 1
  have d52 : w5.cell? ⟨w.heap.size, 2, none⟩ = some (.int .i64 e.v.vr) := b5.cell 2
  by_cases p1 : sortedI la.length e.v.isr
  case neg =>
    have q1 : decide (sortedI la.length e.v.isr) = false := decide_eq_false p1
    refine ⟨w3, ?_, F3⟩
    rw [if_neg (fun hh => p1 hh.1)]
    unfold g31_l188_b
    simp only [hW, k0, i1, ld, s1, hw2, addr_add, Nat.zero_add, hk3, c3, e3, q1, obs, asP_pointer, asB_bool, asI_int, asS_string, asSl_slice, asM_map, asTup0, asTup1, asTup2, asTup3, asTup4, asTup5, asTup6, asTup7, asTup8, asTup9, asAgg2, asAgg3, asAgg4, asAgg5, asAgg6, asAgg7, asAgg8, asAgg9, asAgg12, getD0, getD1, getD2, getD3, getD4, getD5, getD6, getD7, getD8, getD9, getD10, getD11, getD12, getD13, getD14, getD15, getD16, getD17, getD18, getD19, Bool.not_true, Bool.not_false, Bool.false_eq_true, Bool.true_eq_false, ↓reduceIte, decide_true, decide_false, Option.isNone_some, Option.isNone_none, Option.isSome_some, Option.isSome_none, beq_self_eq_true, bne_self_eq_false, Bool.and_true, Bool.true_and, Bool.and_false, Bool.false_and, not_true_eq_false, not_false_eq_true]
  have q1 : decide (sortedI la.length e.v.isr) = true := decide_eq_true p1
  by_cases p2 : sortedI la.length e.v.rep
  case neg =>
    have q2 : decide (sortedI la.length e.v.rep) = false := decide_eq_false p2
    refine ⟨w4, ?_, F4⟩
    rw [if_neg (fun hh => p2 hh.2.1)]
    unfold g31_l188_b
    simp only [hW, k0, i1, ld, s1, hw2, addr_add, Nat.zero_add, hk3, c3, e3, q1, c4, e4, q2, obs, asP_pointer, asB_bool, asI_int, asS_string, asSl_slice, asM_map, asTup0, asTup1, asTup2, asTup3, asTup4, asTup5, asTup6, asTup7, asTup8, asTup9, asAgg2, asAgg3, asAgg4, asAgg5, asAgg6, asAgg7, asAgg8, asAgg9, asAgg12, getD0, getD1, getD2, getD3, getD4, getD5, getD6, getD7, getD8, getD9, getD10, getD11, getD12, getD13, getD14, getD15, getD16, getD17, getD18, getD19, Bool.not_true, Bool.not_false, Bool.false_eq_true, Bool.true_eq_false, ↓reduceIte, decide_true, decide_false, Option.isNone_some, Option.isNone_none, Option.isSome_some, Option.isSome_none, beq_self_eq_true, bne_self_eq_false, Bool.and_true, Bool.true_and, Bool.and_false, Bool.false_and, not_true_eq_false, not_false_eq_true]
  have q2 : decide (sortedI la.length e.v.rep) = true := decide_eq_true p2
  have fin : ∀ x : World, Fr [] w x → (e.v.tgt = [] ∨ sortedI la.length e.v.tgt) → (∀ r, (if decide (e.v.ld < -1) = true then some (Exit.ret, ((none : Option Addr), (7 : Int), (k : Int)), x) else if decide (e.v.ld ≥ (qa.2.1 : Int)) = true then some (Exit.ret, (none, 7, (k : Int)), x) else if decide (e.v.ep < 0) = true then some (Exit.ret, (none, 7, (k : Int)), x) else if decide (e.v.vr < 0) = true then some (Exit.ret, (none, 7, (k : Int)), x) else some (Exit.normal, (none, 0, ((k + 1 : Nat) : Int)), x)) = some r → g31_l188_b w0 u0 (none, 0, (k : Int)) w = some r) →
      ∃ w', g31_l188_b w0 u0 (none, 0, (k : Int)) w = some (if partOk la.length e.v then (.normal, (none, 0, ((k + 1 : Nat) : Int)), w') else (.ret, (none, 7, (k : Int)), w')) ∧ Fr [] w w' := by
    intro x hx pt base
    refine ⟨x, base _ ?_, hx⟩
    by_cases a1 : e.v.ld < -1
    · rw [if_neg (show ¬ partOk la.length e.v from fun hh => by have := hh.2.2.2.1; omega), if_pos (by simp [a1])]
    by_cases a2 : e.v.ld ≥ (qa.2.1 : Int)
    · rw [if_neg (show ¬ partOk la.length e.v from fun hh => by have := hh.2.2.2.2.1; omega), if_neg (by simp; omega), if_pos (by simp; omega)]
    by_cases a3 : e.v.ep < 0
    · rw [if_neg (show ¬ partOk la.length e.v from fun hh => by have := hh.2.2.2.2.2.1; omega), if_neg (by simp; omega), if_neg (by simp; omega), if_pos (by simp [a3])]
    by_cases a4 : e.v.vr < 0
    · rw [if_neg (show ¬ partOk la.length e.v from fun hh => by have := hh.2.2.2.2.2.2; omega), if_neg (by simp; omega), if_neg (by simp; omega), if_neg (by simp; omega), if_pos (by simp [a4])]
    rw [if_pos (show partOk la.length e.v from ⟨p1, p2, pt, by omega, by omega, by omega, by omega⟩), if_neg (by simp; omega), if_neg (by simp; omega), if_neg (by simp; omega), if_neg (by simp; omega)]
  by_cases ht : e.v.tgt = []
  · refine fin w4 F4 (.inl ht) fun r hr => ?_
    have kt : decide ((e.qt.2.1 : Int) > 0) = false := by rw [ht] at hqt; simp at hqt ⊢; omega
    unfold g31_l188_b
    simp only [hW, k0, i1, ld, s1, hw2, addr_add, Nat.zero_add, hk3, c3, e3, q1, c4, e4, q2, c5, kt, d40, d41, d42, g40, kw, obs, asP_pointer, asB_bool, asI_int, asS_string, asSl_slice, asM_map, asTup0, asTup1, asTup2, asTup3, asTup4, asTup5, asTup6, asTup7, asTup8, asTup9, asAgg2, asAgg3, asAgg4, asAgg5, asAgg6, asAgg7, asAgg8, asAgg9, asAgg12, getD0, getD1, getD2, getD3, getD4, getD5, getD6, getD7, getD8, getD9, getD10, getD11, getD12, getD13, getD14, getD15, getD16, getD17, getD18, getD19, Bool.not_true, Bool.not_false, Bool.false_eq_true, Bool.true_eq_false, ↓reduceIte, decide_true, decide_false, Option.isNone_some, Option.isNone_none, Option.isSome_some, Option.isSome_none, beq_self_eq_true, bne_self_eq_false, Bool.and_true, Bool.true_and, Bool.and_false, Bool.false_and, not_true_eq_false, not_false_eq_true]
    exact hr
  have kt : decide ((e.qt.2.1 : Int) > 0) = true := by have := List.length_pos_iff.mpr ht; simp; omega
  by_cases p3 : sortedI la.length e.v.tgt
  · have q3 : decide (sortedI la.length e.v.tgt) = true := decide_eq_true p3
    refine fin w5 F5 (.inr p3) fun r hr => ?_
    unfold g31_l188_b
    simp only [hW, k0, i1, ld, s1, hw2, addr_add, Nat.zero_add, hk3, c3, e3, q1, c4, e4, q2, c5, kt, e5, q3, d50, d51, d52, g50, kw, obs, asP_pointer, asB_bool, asI_int, asS_string, asSl_slice, asM_map, asTup0, asTup1, asTup2, asTup3, asTup4, asTup5, asTup6, asTup7, asTup8, asTup9, asAgg2, asAgg3, asAgg4, asAgg5, asAgg6, asAgg7, asAgg8, asAgg9, asAgg12, getD0, getD1, getD2, getD3, getD4, getD5, getD6, getD7, getD8, getD9, getD10, getD11, getD12, getD13, getD14, getD15, getD16, getD17, getD18, getD19, Bool.not_true, Bool.not_false, Bool.false_eq_true, Bool.true_eq_false, ↓reduceIte, decide_true, decide_false, Option.isNone_some, Option.isNone_none, Option.isSome_some, Option.isSome_none, beq_self_eq_true, bne_self_eq_false, Bool.and_true, Bool.true_and, Bool.and_false, Bool.false_and, not_true_eq_false, not_false_eq_true]
    exact hr
  have q3 : decide (sortedI la.length e.v.tgt) = false := decide_eq_false p3
  refine ⟨w5, ?_, F5⟩
  rw [if_neg (fun hh => by rcases hh.2.2.1 with hx | hx; exact ht hx; exact p3 hx)]
  unfold g31_l188_b
  simp only [hW, k0, i1, ld, s1, hw2, addr_add, Nat.zero_add, hk3, c3, e3, q1, c4, e4, q2, c5, kt, e5, q3, obs, asP_pointer, asB_bool, asI_int, asS_string, asSl_slice, asM_map, asTup0, asTup1, asTup2, asTup3, asTup4, asTup5, asTup6, asTup7, asTup8, asTup9, asAgg2, asAgg3, asAgg4, asAgg5, asAgg6, asAgg7, asAgg8, asAgg9, asAgg12, getD0, getD1, getD2, getD3, getD4, getD5, getD6, getD7, getD8, getD9, getD10, getD11, getD12, getD13, getD14, getD15, getD16, getD17, getD18, getD19, Bool.not_true, Bool.not_false, Bool.false_eq_true, Bool.true_eq_false, ↓reduceIte, decide_true, decide_false, Option.isNone_some, Option.isNone_none, Option.isSome_some, Option.isSome_none, beq_self_eq_true, bne_self_eq_false, Bool.and_true, Bool.true_and, Bool.and_false, Bool.false_and, not_true_eq_false, not_false_eq_true]
end
end Go.Proofs.Ytjcenfgmpbeldaa

namespace Go.Proofs.Ytjcenfgmpbeldaa
open Go Go.Ev
set_option maxRecDepth 100000
set_option linter.unusedVariables false
set_option linter.unusedSimpArgs false

def GotR (w' : World) (lo : Nat) : Option IM → Option Addr → Prop
  | none, r => r = none
  | some m, r => ∃ b, r = some ⟨b, 0, none⟩ ∧ Ref w' (fun y => lo ≤ y ∧ y < w'.heap.size) b m
theorem GotR.up {w : World} {lo lo' : Nat} {o : Option IM} {r : Option Addr} (h : GotR w lo o r) (hl : lo' ≤ lo) : GotR w lo' o r := by
  cases o with
  | none => exact h
  | some m => obtain ⟨b, e, qa, qc, qb, qp, es, hi⟩ := h; exact ⟨b, e, qa, qc, qb, qp, es, hi.up (fun y hy => ⟨by omega, hy.2⟩) (fun y hy => hy.2)⟩

abbrev laOf (ns : List NV) : List Value := ns.map fun n => .bool n.al
abbrev lcOf (ns : List NV) : List Value := ns.map fun n => .int .i64 n.cm
abbrev lbOf (ns : List NV) : List Value := ns.map fun n => .int .u64 n.bk

theorem Bl2.ref {w : World} {b : Nat} {qa qc qb qp : Sh} {ns : List NV} {es : List PE} {next count : Int} (h : Bl2 w b qa qc qb qp (laOf ns) (lcOf ns) (lbOf ns) es next count) : Ref w (fun y => b ≤ y ∧ y < w.heap.size) b ⟨ns, es.map (·.v), next, count⟩ :=
  ⟨qa, qc, qb, qp, es, h.blk, h.oa, h.oc, h.ob, h.op, rfl, fun e he => ⟨(h.ok e he).oi, (h.ok e he).or_, (h.ok e he).ot, ⟨fun y hy => ⟨(h.ok e he).reg.1 y hy, (h.ok e he).oi.lt y hy⟩, fun y hy => ⟨(h.ok e he).reg.2.1 y hy, (h.ok e he).or_.lt y hy⟩, fun y hy => ⟨(h.ok e he).reg.2.2 y hy, (h.ok e he).ot.lt y hy⟩⟩, (h.ok e he).len⟩,
    ⟨Nat.le_refl _, h.blk.lt⟩, ⟨fun y hy => ⟨h.ra y hy, h.oa.lt y hy⟩, fun y hy => ⟨h.rc y hy, h.oc.lt y hy⟩, fun y hy => ⟨h.rb y hy, h.ob.lt y hy⟩, fun y hy => ⟨h.rp y hy, h.op.lt y hy⟩⟩, fun y hy => hy.2⟩

section
variable {w0 W w : World} {u0 : ShT} {s : RS} {qa qc qb qp : Sh} {ns : List NV} {es : List PE}

open Classical in
theorem ref_tail (hW : w0.alloc (.cells #[.slice u0.1 u0.2.1 u0.2.2, .int .i64 0, .int .i64 0] 101) = W) (h : RC W w w0.heap.size u0 s qa qc qb qp (laOf ns) (lcOf ns) (lbOf ns) es 0 0) (hn : ns.length ≤ 5) (he : es.length ≤ 6) (t : Int) :
    ∃ r w', g31_l116_x2 w0 u0 t w = some (.tuple #[.pointer r, .int .i64 (decF ⟨ns, es.map (·.v), ((uintS s).1 : Int), (intS (uintS s).2).1⟩ (endS (intS (uintS s).2).2)).2], w') ∧
      Fr [w0.heap.size] W w' ∧ GotR w' W.heap.size (decF ⟨ns, es.map (·.v), ((uintS s).1 : Int), (intS (uintS s).2).1⟩ (endS (intS (uintS s).2).2)).1 r := by
  obtain ⟨w1, e1, h1, f1⟩ := h.uint
  obtain ⟨n, hnn⟩ : ∃ n, ((uintS s).1 : Int) = n := ⟨_, rfl⟩
  have hn0 : 0 ≤ n := by omega
  rw [hnn] at e1 ⊢
  obtain ⟨w3, s3, b3, f3⟩ := blk_put h1.bld.blk (i := 4) (by simp) (v := .int .u64 n) rfl
  have h3 := h1.build (h1.bld.put b3 f3) f3 (by intro y hy; simp at hy; omega)
  obtain ⟨w4, e4, h4, f4⟩ := h3.int
  obtain ⟨ct, hct⟩ : ∃ ct, (intS (uintS s).2).1 = ct := ⟨_, rfl⟩
  rw [hct] at e4 ⊢
  obtain ⟨w5, s5, b5, f5⟩ := blk_put h4.bld.blk (i := 5) (by simp) (v := .int .i64 ct) rfl
  have h5 := h4.build (h4.bld.put b5 f5) f5 (by intro y hy; simp at hy; omega)
  have e6 := end49 h5.rd
  have h6 := h5.aside (Fr.drew [] w5)
  obtain ⟨ec, hec⟩ : ∃ ec, endS (intS (uintS s).2).2 = ec := ⟨_, rfl⟩
  rw [hec] at e6 ⊢
  obtain ⟨w6, hw6⟩ : ∃ w6, w5.drew = w6 := ⟨_, rfl⟩
  rw [hw6] at e6 h6
  have hqa : qa.2.1 = ns.length := by have := h6.bld.oa.len; simp at this; omega
  have hqp : qp.2.1 = es.length := by have := h6.bld.op.len; rw [ptCs_len] at this; omega
  by_cases h0 : ec = 0
  case neg =>
    have k : (ec != 0) = true := by simp [h0]
    refine ⟨none, w6, ?_, h6.fr, ?_⟩
    · unfold g31_l116_x2
      simp only [hW, addr_add, Nat.zero_add, e1, s3, e4, s5, e6, k, obs, asP_pointer, asB_bool, asI_int, asS_string, asSl_slice, asM_map, asTup0, asTup1, asTup2, asTup3, asTup4, asTup5, asTup6, asTup7, asTup8, asTup9, asAgg2, asAgg3, asAgg4, asAgg5, asAgg6, asAgg7, asAgg8, asAgg9, asAgg12, getD0, getD1, getD2, getD3, getD4, getD5, getD6, getD7, getD8, getD9, getD10, getD11, getD12, getD13, getD14, getD15, getD16, getD17, getD18, getD19, Bool.not_true, Bool.not_false, Bool.false_eq_true, Bool.true_eq_false, ↓reduceIte, decide_true, decide_false, Option.isNone_some, Option.isNone_none, Option.isSome_some, Option.isSome_none, beq_self_eq_true, bne_self_eq_false, Bool.and_true, Bool.true_and, Bool.and_false, Bool.false_and, not_true_eq_false, not_false_eq_true]
      simp only [decF, ne_eq, h0, not_false_eq_true, if_true]
    · simp only [decF, ne_eq, h0, not_false_eq_true, if_true, GotR]
  have k : (ec != 0) = false := by simp [h0]
  have c0 := h6.k0
  have c3 := h6.k3
  have c4 := h6.k4
  have c5 := h6.k5
  -- not sound
  have no : ∀ w', Fr [w0.heap.size] W w' → ¬ soundI ⟨ns, es.map (·.v), n, ct⟩ → g31_l116_x2 w0 u0 t w = some (.tuple #[.pointer none, .int .i64 7], w') →
      ∃ r w', g31_l116_x2 w0 u0 t w = some (.tuple #[.pointer r, .int .i64 (decF ⟨ns, es.map (·.v), n, ct⟩ ec).2], w') ∧ Fr [w0.heap.size] W w' ∧ GotR w' W.heap.size (decF ⟨ns, es.map (·.v), n, ct⟩ ec).1 r := by
    intro w' f hs e
    have : decF ⟨ns, es.map (·.v), n, ct⟩ ec = (none, 7) := by simp only [decF, ne_eq, h0, not_true_eq_false, if_false, hs]
    rw [this]
    exact ⟨none, w', e, f, rfl⟩
  by_cases a1 : ns = []
  · have k1 : ((qa.2.1 : Int) == 0) = true := by rw [hqa, a1]; rfl
    refine no w6 h6.fr (fun hh => hh.1 a1) ?_
    unfold g31_l116_x2
    simp only [hW, addr_add, Nat.zero_add, e1, s3, e4, s5, e6, k, c0, k1, obs, asP_pointer, asB_bool, asI_int, asS_string, asSl_slice, asM_map, asTup0, asTup1, asTup2, asTup3, asTup4, asTup5, asTup6, asTup7, asTup8, asTup9, asAgg2, asAgg3, asAgg4, asAgg5, asAgg6, asAgg7, asAgg8, asAgg9, asAgg12, getD0, getD1, getD2, getD3, getD4, getD5, getD6, getD7, getD8, getD9, getD10, getD11, getD12, getD13, getD14, getD15, getD16, getD17, getD18, getD19, Bool.not_true, Bool.not_false, Bool.false_eq_true, Bool.true_eq_false, ↓reduceIte, decide_true, decide_false, Option.isNone_some, Option.isNone_none, Option.isSome_some, Option.isSome_none, beq_self_eq_true, bne_self_eq_false, Bool.and_true, Bool.true_and, Bool.and_false, Bool.false_and, not_true_eq_false, not_false_eq_true]
  have k1 : ((qa.2.1 : Int) == 0) = false := by have := List.length_pos_iff.mpr a1; simp; omega
  by_cases a2 : es = []
  · have k2 : ((qp.2.1 : Int) == 0) = true := by rw [hqp, a2]; rfl
    refine no w6 h6.fr (fun hh => hh.2.1 (by rw [a2]; rfl)) ?_
    unfold g31_l116_x2
    simp only [hW, addr_add, Nat.zero_add, e1, s3, e4, s5, e6, k, c0, k1, c3, k2, obs, asP_pointer, asB_bool, asI_int, asS_string, asSl_slice, asM_map, asTup0, asTup1, asTup2, asTup3, asTup4, asTup5, asTup6, asTup7, asTup8, asTup9, asAgg2, asAgg3, asAgg4, asAgg5, asAgg6, asAgg7, asAgg8, asAgg9, asAgg12, getD0, getD1, getD2, getD3, getD4, getD5, getD6, getD7, getD8, getD9, getD10, getD11, getD12, getD13, getD14, getD15, getD16, getD17, getD18, getD19, Bool.not_true, Bool.not_false, Bool.false_eq_true, Bool.true_eq_false, ↓reduceIte, decide_true, decide_false, Option.isNone_some, Option.isNone_none, Option.isSome_some, Option.isSome_none, beq_self_eq_true, bne_self_eq_false, Bool.and_true, Bool.true_and, Bool.and_false, Bool.false_and, not_true_eq_false, not_false_eq_true]
  have k2 : ((qp.2.1 : Int) == 0) = false := by have := List.length_pos_iff.mpr a2; simp; omega
  by_cases a3 : n = 0
  · have k3 : (n == 0) = true := by rw [a3]; rfl
    refine no w6 h6.fr (fun hh => by have : 1 ≤ n := hh.2.2.1; omega) ?_
    unfold g31_l116_x2
    simp only [hW, addr_add, Nat.zero_add, e1, s3, e4, s5, e6, k, c0, k1, c3, k2, c4, k3, obs, asP_pointer, asB_bool, asI_int, asS_string, asSl_slice, asM_map, asTup0, asTup1, asTup2, asTup3, asTup4, asTup5, asTup6, asTup7, asTup8, asTup9, asAgg2, asAgg3, asAgg4, asAgg5, asAgg6, asAgg7, asAgg8, asAgg9, asAgg12, getD0, getD1, getD2, getD3, getD4, getD5, getD6, getD7, getD8, getD9, getD10, getD11, getD12, getD13, getD14, getD15, getD16, getD17, getD18, getD19, Bool.not_true, Bool.not_false, Bool.false_eq_true, Bool.true_eq_false, ↓reduceIte, decide_true, decide_false, Option.isNone_some, Option.isNone_none, Option.isSome_some, Option.isSome_none, beq_self_eq_true, bne_self_eq_false, Bool.and_true, Bool.true_and, Bool.and_false, Bool.false_and, not_true_eq_false, not_false_eq_true]
  have k3 : (n == 0) = false := by simp [a3]
  by_cases a4 : n > 1001
  · have k4 : decide (n > 1001) = true := by simp only [a4, decide_true]
    refine no w6 h6.fr (fun hh => by have : n ≤ 1001 := hh.2.2.2.1; omega) ?_
    unfold g31_l116_x2
    simp only [hW, addr_add, Nat.zero_add, e1, s3, e4, s5, e6, k, c0, k1, c3, k2, c4, k3, k4, obs, asP_pointer, asB_bool, asI_int, asS_string, asSl_slice, asM_map, asTup0, asTup1, asTup2, asTup3, asTup4, asTup5, asTup6, asTup7, asTup8, asTup9, asAgg2, asAgg3, asAgg4, asAgg5, asAgg6, asAgg7, asAgg8, asAgg9, asAgg12, getD0, getD1, getD2, getD3, getD4, getD5, getD6, getD7, getD8, getD9, getD10, getD11, getD12, getD13, getD14, getD15, getD16, getD17, getD18, getD19, Bool.not_true, Bool.not_false, Bool.false_eq_true, Bool.true_eq_false, ↓reduceIte, decide_true, decide_false, Option.isNone_some, Option.isNone_none, Option.isSome_some, Option.isSome_none, beq_self_eq_true, bne_self_eq_false, Bool.and_true, Bool.true_and, Bool.and_false, Bool.false_and, not_true_eq_false, not_false_eq_true]
  have k4 : decide (n > 1001) = false := by simp only [a4, decide_false]
  by_cases a5 : ct < 0
  · have k5 : decide (ct < 0) = true := by simp only [a5, decide_true]
    refine no w6 h6.fr (fun hh => by have : 0 ≤ ct := hh.2.2.2.2.1; omega) ?_
    unfold g31_l116_x2
    simp only [hW, addr_add, Nat.zero_add, e1, s3, e4, s5, e6, k, c0, k1, c3, k2, c4, k3, k4, c5, k5, obs, asP_pointer, asB_bool, asI_int, asS_string, asSl_slice, asM_map, asTup0, asTup1, asTup2, asTup3, asTup4, asTup5, asTup6, asTup7, asTup8, asTup9, asAgg2, asAgg3, asAgg4, asAgg5, asAgg6, asAgg7, asAgg8, asAgg9, asAgg12, getD0, getD1, getD2, getD3, getD4, getD5, getD6, getD7, getD8, getD9, getD10, getD11, getD12, getD13, getD14, getD15, getD16, getD17, getD18, getD19, Bool.not_true, Bool.not_false, Bool.false_eq_true, Bool.true_eq_false, ↓reduceIte, decide_true, decide_false, Option.isNone_some, Option.isNone_none, Option.isSome_some, Option.isSome_none, beq_self_eq_true, bne_self_eq_false, Bool.and_true, Bool.true_and, Bool.and_false, Bool.false_and, not_true_eq_false, not_false_eq_true]
  have k5 : decide (ct < 0) = false := by simp only [a5, decide_false]
  have pre : ∀ r, g31_l188 w0 u0 (none, 0, 0) w6 = some r → g31_l116_x2 w0 u0 t w = some r := by
    intro r hr
    unfold g31_l116_x2
    simp only [hW, addr_add, Nat.zero_add, e1, s3, e4, s5, e6, k, c0, k1, c3, k2, c4, k3, k4, c5, k5, obs, asP_pointer, asB_bool, asI_int, asS_string, asSl_slice, asM_map, asTup0, asTup1, asTup2, asTup3, asTup4, asTup5, asTup6, asTup7, asTup8, asTup9, asAgg2, asAgg3, asAgg4, asAgg5, asAgg6, asAgg7, asAgg8, asAgg9, asAgg12, getD0, getD1, getD2, getD3, getD4, getD5, getD6, getD7, getD8, getD9, getD10, getD11, getD12, getD13, getD14, getD15, getD16, getD17, getD18, getD19, Bool.not_true, Bool.not_false, Bool.false_eq_true, Bool.true_eq_false, ↓reduceIte, decide_true, decide_false, Option.isNone_some, Option.isNone_none, Option.isSome_some, Option.isSome_none, beq_self_eq_true, bne_self_eq_false, Bool.and_true, Bool.true_and, Bool.and_false, Bool.false_and, not_true_eq_false, not_false_eq_true]
    exact hr
  have hln : (laOf ns).length = ns.length := by simp
  obtain ⟨e, t', w', g1, hQ⟩ := loopS_rule (b := g31_l188_b w0 u0) (n := es.length)
    (I := fun k s' x => s' = (none, 0, (k : Int)) ∧ Fr [] w6 x ∧ ∀ i (hi : i < es.length), i < k → partOk ns.length es[i].v)
    (Q := fun e s' x => Fr [] w6 x ∧ (e = .ret ∧ s'.1 = none ∧ s'.2.1 = 7 ∧ ¬ (∀ v ∈ es.map (·.v), partOk ns.length v) ∨ e = .exit 4 ∧ ∀ v ∈ es.map (·.v), partOk ns.length v))
    (fun k s' x hk ⟨hs, hF, hok⟩ => by
      subst hs
      obtain ⟨x', e, f⟩ := ref_sound_round hW (h6.aside hF) hk (by omega)
      rw [hln] at e
      by_cases hp : partOk ns.length es[k].v
      · rw [if_pos hp] at e
        refine ⟨_, _, x', e, .inl ⟨rfl, rfl, (Fr.mono (Fr.app hF f) (by have z0_ := Fr.size hF; have z1_ := Fr.size f; intro y_ hy_ hl_; grind [blkOf])), fun i hi hik => ?_⟩⟩
        by_cases hik' : i = k
        · subst hik'; exact hp
        · exact hok i hi (by omega)
      · rw [if_neg hp] at e
        exact ⟨_, _, x', e, .inr ⟨by simp, (Fr.mono (Fr.app hF f) (by have z0_ := Fr.size hF; have z1_ := Fr.size f; intro y_ hy_ hl_; grind [blkOf])), .inl ⟨rfl, rfl, rfl, fun hh => hp (hh _ (List.mem_map.mpr ⟨_, List.getElem_mem hk, rfl⟩))⟩⟩⟩)
    (fun s' x ⟨hs, hF, hok⟩ => by
      subst hs
      refine ⟨.exit 4, (none, 0, (es.length : Int)), x, ?_, by simp, hF, .inr ⟨rfl, fun v hv => ?_⟩⟩
      · have kk : decide ((es.length : Int) < (qp.2.1 : Int)) = false := by simp; omega
        have cx := (h6.aside hF).k3
        unfold g31_l188_b
        simp only [hW, addr_add, Nat.zero_add, cx, kk, obs, asP_pointer, asB_bool, asI_int, asS_string, asSl_slice, asM_map, asTup0, asTup1, asTup2, asTup3, asTup4, asTup5, asTup6, asTup7, asTup8, asTup9, asAgg2, asAgg3, asAgg4, asAgg5, asAgg6, asAgg7, asAgg8, asAgg9, asAgg12, getD0, getD1, getD2, getD3, getD4, getD5, getD6, getD7, getD8, getD9, getD10, getD11, getD12, getD13, getD14, getD15, getD16, getD17, getD18, getD19, Bool.not_true, Bool.not_false, Bool.false_eq_true, Bool.true_eq_false, ↓reduceIte, decide_true, decide_false, Option.isNone_some, Option.isNone_none, Option.isSome_some, Option.isSome_none, beq_self_eq_true, bne_self_eq_false, Bool.and_true, Bool.true_and, Bool.and_false, Bool.false_and, not_true_eq_false, not_false_eq_true]
      · obtain ⟨e, he, rfl⟩ := List.mem_map.mp hv
        obtain ⟨i, hi, rfl⟩ := List.getElem_of_mem he
        exact hok i hi hi) (k := 0) (s := (none, 0, 0)) (w := w6) (Nat.zero_le _) ⟨rfl, Fr.refl _ _, fun i hi h0 => absurd h0 (by omega)⟩
  rcases hQ with ⟨hF, ⟨rfl, hs1, hs2, hno⟩ | ⟨rfl, hall⟩⟩
  · refine no w' (h6.aside hF).fr (fun hh => hno hh.2.2.2.2.2) (pre _ ?_)
    rw [g31_l188_ret_of g1, g31_l188_ret, hs1, hs2]
  · have hs : soundI ⟨ns, es.map (·.v), n, ct⟩ := ⟨a1, by simpa using a2, by show 1 ≤ n; omega, by show n ≤ 1001; omega, by show 0 ≤ ct; omega, hall⟩
    have hd : decF ⟨ns, es.map (·.v), n, ct⟩ ec = (some ⟨ns, es.map (·.v), n, ct⟩, 0) := by simp only [decF, ne_eq, h0, not_true_eq_false, if_false, hs, if_true]
    rw [hd]
    refine ⟨some ⟨W.heap.size, 0, none⟩, w', pre _ ?_, (h6.aside hF).fr, _, rfl, (h6.aside hF).bld.ref⟩
    rw [g31_l188_x4_of g1, g31_l188_x4, hW]

theorem ref_parts (hW : w0.alloc (.cells #[.slice u0.1 u0.2.1 u0.2.2, .int .i64 0, .int .i64 0] 101) = W) (h : RC W w w0.heap.size u0 s qa qc qb qp (laOf ns) (lcOf ns) (lbOf ns) [] 0 0) (hn : ns.length ≤ 5) (t : Int) :
    ∃ r w', g31_l5_x0 w0 u0 t w = some (.tuple #[.pointer r, .int .i64 (decF (imgP ns s).1 (endS (imgP ns s).2)).2], w') ∧
      Fr [w0.heap.size] W w' ∧ GotR w' W.heap.size (decF (imgP ns s).1 (endS (imgP ns s).2)).1 r := by
  obtain ⟨w1, e1, h1, f1⟩ := h.uint
  obtain ⟨N, hnn⟩ : ∃ N, (uintS s).1 = N := ⟨_, rfl⟩
  unfold imgP
  rw [hnn] at e1 ⊢
  obtain ⟨n, hcap⟩ : ∃ n, capN 6 N = n := ⟨_, rfl⟩
  have hn6 : n ≤ 6 := by rw [← hcap]; exact capN_le _ _
  have hj : g31_l5_x0 w0 u0 t w = g31_l116 w0 u0 (n : Int) 0 w1 := by
    by_cases c : 6 < N
    · have k1 : decide ((N : Int) > 6) = true := by simp; omega
      have : n = 0 := by rw [← hcap]; unfold capN; rw [if_pos c]
      subst this
      unfold g31_l5_x0
      simp only [e1, k1, obs, asP_pointer, asB_bool, asI_int, asS_string, asSl_slice, asM_map, asTup0, asTup1, asTup2, asTup3, asTup4, asTup5, asTup6, asTup7, asTup8, asTup9, asAgg2, asAgg3, asAgg4, asAgg5, asAgg6, asAgg7, asAgg8, asAgg9, asAgg12, getD0, getD1, getD2, getD3, getD4, getD5, getD6, getD7, getD8, getD9, getD10, getD11, getD12, getD13, getD14, getD15, getD16, getD17, getD18, getD19, Bool.not_true, Bool.not_false, Bool.false_eq_true, Bool.true_eq_false, ↓reduceIte, decide_true, decide_false, Option.isNone_some, Option.isNone_none, Option.isSome_some, Option.isSome_none, beq_self_eq_true, bne_self_eq_false, Bool.and_true, Bool.true_and, Bool.and_false, Bool.false_and, not_true_eq_false, not_false_eq_true]
      rfl
    · have k1 : decide ((N : Int) > 6) = false := by simp; omega
      have : n = N := by rw [← hcap]; unfold capN; rw [if_neg c]
      subst this
      unfold g31_l5_x0
      simp only [e1, k1, obs, asP_pointer, asB_bool, asI_int, asS_string, asSl_slice, asM_map, asTup0, asTup1, asTup2, asTup3, asTup4, asTup5, asTup6, asTup7, asTup8, asTup9, asAgg2, asAgg3, asAgg4, asAgg5, asAgg6, asAgg7, asAgg8, asAgg9, asAgg12, getD0, getD1, getD2, getD3, getD4, getD5, getD6, getD7, getD8, getD9, getD10, getD11, getD12, getD13, getD14, getD15, getD16, getD17, getD18, getD19, Bool.not_true, Bool.not_false, Bool.false_eq_true, Bool.true_eq_false, ↓reduceIte, decide_true, decide_false, Option.isNone_some, Option.isNone_none, Option.isSome_some, Option.isSome_none, beq_self_eq_true, bne_self_eq_false, Bool.and_true, Bool.true_and, Bool.and_false, Bool.false_and, not_true_eq_false, not_false_eq_true]
      rfl
  rw [hcap, hj]
  have wn : IntKind.i64.wrap (n : Int) = (n : Int) := wrap_i64 (by omega) (by omega)
  obtain ⟨e, t', w', g1, hQ, qp', es', h2, hv⟩ := loopS_rule (b := g31_l116_b (n : Int) w0 u0) (n := n)
    (I := fun k s' x => s' = (k : Int) ∧ ∃ qp' es', RC W x w0.heap.size u0 (rdN rdPart k (uintS s).2).2 qa qc qb qp' (laOf ns) (lcOf ns) (lbOf ns) es' 0 0 ∧ es'.map (·.v) = (rdN rdPart k (uintS s).2).1)
    (Q := fun e s' x => e = .exit 2 ∧ ∃ qp' es', RC W x w0.heap.size u0 (rdN rdPart n (uintS s).2).2 qa qc qb qp' (laOf ns) (lcOf ns) (lbOf ns) es' 0 0 ∧ es'.map (·.v) = (rdN rdPart n (uintS s).2).1)
    (fun k s' x hk ⟨hs, qp', es', hI, hv⟩ => by
      subst hs
      have hl : es'.length = k := by have := congrArg List.length hv; rw [List.length_map, rdN_len] at this; exact this
      obtain ⟨qp2, e, x', ee, hJ, hev⟩ := ref_part hW hI hk (by omega) (by omega)
      refine ⟨_, _, x', ee, .inl ⟨rfl, rfl, qp2, es' ++ [e], hJ, ?_⟩⟩
      rw [List.map_append, hv, List.map_cons, hev]; rfl)
    (fun s' x ⟨hs, hI⟩ => by
      subst hs
      refine ⟨.exit 2, (n : Int), x, ?_, by simp, rfl, hI⟩
      have kk : decide ((n : Int) < IntKind.i64.wrap (n : Int)) = false := by rw [wn]; simp
      unfold g31_l116_b
      simp only [kk, Bool.false_eq_true, if_false]) (k := 0) (s := 0) (w := w1) (Nat.zero_le _) ⟨rfl, qp, [], h1, rfl⟩
  subst hQ
  have hl : es'.length = n := by have := congrArg List.length hv; rw [List.length_map, rdN_len] at this; exact this
  obtain ⟨r, w2, e2, f2, G⟩ := ref_tail hW h2 hn (by omega) t'
  rw [hv] at e2 G
  refine ⟨r, w2, ?_, f2, G⟩
  rw [g31_l116_x2_of g1]
  exact e2
end

/-- the document's Read: what the model reads -/
theorem read31 {w0 : World} {u0 : ShT} {bs : List Int} (hu : SlI .u8 w0 u0 bs) (hb : ∀ b ∈ bs, 0 ≤ b ∧ b ≤ 255) (hl : bs.length ≤ 140737488351232) :
    ∃ r w', callF Try.prog 31 #[.slice u0.1 u0.2.1 u0.2.2] w0 = some (.tuple #[.pointer r, .int .i64 (decM bs).2], w') ∧ Fr [] w0 w' ∧ GotR w' w0.heap.size (decM bs).1 r := by
  have f1 : Fr [] w0 (w0.alloc (.cells #[.slice u0.1 u0.2.1 u0.2.2, .int .i64 0, .int .i64 0] 101)) := Fr.alloc _
  have b1 : Blk (w0.alloc (.cells #[.slice u0.1 u0.2.1 u0.2.2, .int .i64 0, .int .i64 0] 101)) w0.heap.size [.slice u0.1 u0.2.1 u0.2.2, .int .i64 0, .int .i64 0] 101 := Blk.new w0 [.slice u0.1 u0.2.1 u0.2.2, .int .i64 0, .int .i64 0] 101
  obtain ⟨W, hW⟩ : ∃ W, w0.alloc (.cells #[.slice u0.1 u0.2.1 u0.2.2, .int .i64 0, .int .i64 0] 101) = W := ⟨_, rfl⟩
  rw [hW] at f1 b1
  have hq : 0 < u0.2.1 → ∀ y ∈ blkOf u0, y < w0.heap.size := fun h0 y hy => hu.slC.lt (by have h1 := hu.1; rw [List.length_map]; omega) y hy
  have z1 := f1.size
  have lp := b1.lt
  have R1 : Rdr 101 W w0.heap.size u0 ⟨bs, 0, 0⟩ := ⟨b1, hu.fr2 f1 (by simp), fun h0 hm => by have := hq h0 _ hm; omega, ⟨hb, by simp, by simp only; omega⟩⟩
  have f2 : Fr [] W (W.alloc (.cells #[.slice none 0 0, .slice none 0 0, .slice none 0 0, .slice none 0 0, .int .u64 0, .int .i64 0] 89)) := Fr.alloc _
  have b2 : Blk (W.alloc (.cells #[.slice none 0 0, .slice none 0 0, .slice none 0 0, .slice none 0 0, .int .u64 0, .int .i64 0] 89)) W.heap.size [.slice none 0 0, .slice none 0 0, .slice none 0 0, .slice none 0 0, .int .u64 0, .int .i64 0] 89 := Blk.new W [.slice none 0 0, .slice none 0 0, .slice none 0 0, .slice none 0 0, .int .u64 0, .int .i64 0] 89
  obtain ⟨w1, hw1⟩ : ∃ w1, W.alloc (.cells #[.slice none 0 0, .slice none 0 0, .slice none 0 0, .slice none 0 0, .int .u64 0, .int .i64 0] 89) = w1 := ⟨_, rfl⟩
  rw [hw1] at f2 b2
  have h0 : RC W w1 w0.heap.size u0 ⟨bs, 0, 0⟩ nl nl nl nl (laOf []) (lcOf []) (lbOf []) [] 0 0 := ⟨⟨b2, own_nl, own_nl, own_nl, own_nl, by simp, by simp [blkOf], by simp [blkOf], by simp [blkOf], by simp [blkOf]⟩, R1.fr f2 (by simp) (by simp), f2.mono (by simp), lp, fun h0 y hy => by have := hq h0 y hy; omega⟩
  obtain ⟨w2, e2, h2, f3⟩ := h0.uint
  rw [decM_eq, rdImg_imgP]
  obtain ⟨s, hs⟩ : ∃ s : RS, (⟨bs, 0, 0⟩ : RS) = s := ⟨_, rfl⟩
  rw [hs] at h0 e2 h2 ⊢
  obtain ⟨N, hnn⟩ : ∃ N, (uintS s).1 = N := ⟨_, rfl⟩
  rw [hnn] at e2 ⊢
  obtain ⟨n, hcap⟩ : ∃ n, capN 5 N = n := ⟨_, rfl⟩
  have hn5 : n ≤ 5 := by rw [← hcap]; exact capN_le _ _
  have hj : g31 u0 w0 = g31_l5 w0 u0 (n : Int) 0 w2 := by
    by_cases c : 5 < N
    · have k1 : decide ((N : Int) > 5) = true := by simp; omega
      have : n = 0 := by rw [← hcap]; unfold capN; rw [if_pos c]
      subst this
      unfold g31
      simp only [hW, hw1, e2, k1, obs, asP_pointer, asB_bool, asI_int, asS_string, asSl_slice, asM_map, asTup0, asTup1, asTup2, asTup3, asTup4, asTup5, asTup6, asTup7, asTup8, asTup9, asAgg2, asAgg3, asAgg4, asAgg5, asAgg6, asAgg7, asAgg8, asAgg9, asAgg12, getD0, getD1, getD2, getD3, getD4, getD5, getD6, getD7, getD8, getD9, getD10, getD11, getD12, getD13, getD14, getD15, getD16, getD17, getD18, getD19, Bool.not_true, Bool.not_false, Bool.false_eq_true, Bool.true_eq_false, ↓reduceIte, decide_true, decide_false, Option.isNone_some, Option.isNone_none, Option.isSome_some, Option.isSome_none, beq_self_eq_true, bne_self_eq_false, Bool.and_true, Bool.true_and, Bool.and_false, Bool.false_and, not_true_eq_false, not_false_eq_true]
      rfl
    · have k1 : decide ((N : Int) > 5) = false := by simp; omega
      have : n = N := by rw [← hcap]; unfold capN; rw [if_neg c]
      subst this
      unfold g31
      simp only [hW, hw1, e2, k1, obs, asP_pointer, asB_bool, asI_int, asS_string, asSl_slice, asM_map, asTup0, asTup1, asTup2, asTup3, asTup4, asTup5, asTup6, asTup7, asTup8, asTup9, asAgg2, asAgg3, asAgg4, asAgg5, asAgg6, asAgg7, asAgg8, asAgg9, asAgg12, getD0, getD1, getD2, getD3, getD4, getD5, getD6, getD7, getD8, getD9, getD10, getD11, getD12, getD13, getD14, getD15, getD16, getD17, getD18, getD19, Bool.not_true, Bool.not_false, Bool.false_eq_true, Bool.true_eq_false, ↓reduceIte, decide_true, decide_false, Option.isNone_some, Option.isNone_none, Option.isSome_some, Option.isSome_none, beq_self_eq_true, bne_self_eq_false, Bool.and_true, Bool.true_and, Bool.and_false, Bool.false_and, not_true_eq_false, not_false_eq_true]
      rfl
  rw [hcap]
  have wn : IntKind.i64.wrap (n : Int) = (n : Int) := wrap_i64 (by omega) (by omega)
  obtain ⟨e, t', w', g1, hQ, qa', qc', qb', h3⟩ := loopS_rule (b := g31_l5_b (n : Int) w0 u0) (n := n)
    (I := fun k s' x => s' = (k : Int) ∧ ∃ qa' qc' qb', RC W x w0.heap.size u0 (rdN rdNode k (uintS s).2).2 qa' qc' qb' nl (laOf (rdN rdNode k (uintS s).2).1) (lcOf (rdN rdNode k (uintS s).2).1) (lbOf (rdN rdNode k (uintS s).2).1) [] 0 0)
    (Q := fun e s' x => e = .exit 0 ∧ ∃ qa' qc' qb', RC W x w0.heap.size u0 (rdN rdNode n (uintS s).2).2 qa' qc' qb' nl (laOf (rdN rdNode n (uintS s).2).1) (lcOf (rdN rdNode n (uintS s).2).1) (lbOf (rdN rdNode n (uintS s).2).1) [] 0 0)
    (fun k s' x hk ⟨hs, qa', qc', qb', hI⟩ => by
      subst hs
      have hl := rdN_len rdNode (uintS s).2 k
      obtain ⟨qa2, qc2, qb2, x', ee, hJ⟩ := ref_node hW hI hk (by omega) (by simp; omega) (by simp; omega) (by simp; omega)
      refine ⟨_, _, x', ee, .inl ⟨rfl, rfl, qa2, qc2, qb2, ?_⟩⟩
      have e1 : laOf (rdN rdNode (k + 1) (uintS s).2).1 = laOf (rdN rdNode k (uintS s).2).1 ++ [.bool (rdNode (rdN rdNode k (uintS s).2).2).1.al] := by simp [rdN, laOf]
      have e2 : lcOf (rdN rdNode (k + 1) (uintS s).2).1 = lcOf (rdN rdNode k (uintS s).2).1 ++ [.int .i64 (rdNode (rdN rdNode k (uintS s).2).2).1.cm] := by simp [rdN, lcOf]
      have e3 : lbOf (rdN rdNode (k + 1) (uintS s).2).1 = lbOf (rdN rdNode k (uintS s).2).1 ++ [.int .u64 (rdNode (rdN rdNode k (uintS s).2).2).1.bk] := by simp [rdN, lbOf]
      rw [e1, e2, e3]
      exact hJ)
    (fun s' x ⟨hs, hI⟩ => by
      subst hs
      refine ⟨.exit 0, (n : Int), x, ?_, by simp, rfl, hI⟩
      have kk : decide ((n : Int) < IntKind.i64.wrap (n : Int)) = false := by rw [wn]; simp
      unfold g31_l5_b
      simp only [kk, Bool.false_eq_true, if_false]) (k := 0) (s := 0) (w := w2) (Nat.zero_le _) ⟨rfl, nl, nl, nl, h2⟩
  subst hQ
  obtain ⟨r, w3, e3, f4, G⟩ := ref_parts hW h3 (by rw [rdN_len]; omega) t'
  refine ⟨r, w3, g31_call ?_, (f1.app f4).mono (by intro y hy hlt; simp at hy; omega), G.up (by omega)⟩
  rw [hj, g31_l5_x0_of g1]
  exact e3
end Go.Proofs.Ytjcenfgmpbeldaa

namespace Go.Proofs.Ytjcenfgmpbeldaa
open Go Go.Ev
set_option maxRecDepth 100000
set_option linter.unusedVariables false
set_option linter.unusedSimpArgs false

end Go.Proofs.Ytjcenfgmpbeldaa
