/-
  ImageQ: lemmas on what Go functions of this seat come to (for whatever arguments, as each says). No condition but those that stand in each lemma.
-/
import Derived.Test.YtjcenfgmpbeldaaImageZs
import Derived.Test.YtjcenfgmpbeldaaImageO
namespace Go.Proofs.Ytjcenfgmpbeldaa
open Go Go.Ev
set_option maxRecDepth 100000
set_option linter.unusedVariables false
set_option linter.unusedSimpArgs false

def cv0 : CV := ⟨0, 0, 0, 0, 0, []⟩
structure CV.Ok (r : CV) : Prop where
  k : -9223372036854775808 ≤ r.k ∧ r.k ≤ 9223372036854775807
  nd : -9223372036854775808 ≤ r.nd ∧ r.nd ≤ 9223372036854775807
  pt : -9223372036854775808 ≤ r.pt ∧ r.pt ≤ 9223372036854775807
  ep : -9223372036854775808 ≤ r.ep ∧ r.ep ≤ 9223372036854775807
  vr : -9223372036854775808 ≤ r.vr ∧ r.vr ≤ 9223372036854775807
  ls : ∀ z ∈ r.ls, -9223372036854775808 ≤ z ∧ z ≤ 9223372036854775807
theorem cvcs_oc (r : CV) (q : ShT) : ∀ u ∈ r.cs q, u.oneCell' = true := by
  intro u hu
  simp only [CV.cs, List.mem_cons, List.not_mem_nil, or_false] at hu
  rcases hu with rfl | rfl | rfl | rfl | rfl | rfl <;> rfl
theorem zero33 (w : World) : Blk (w.alloc (.cells #[.int .i64 0, .int .i64 0, .int .i64 0, .int .i64 0, .int .i64 0, .slice none 0 0] 33)) w.heap.size (cv0.cs (none, 0, 0)) 33 ∧
    Fr [] w (w.alloc (.cells #[.int .i64 0, .int .i64 0, .int .i64 0, .int .i64 0, .int .i64 0, .slice none 0 0] 33)) := ⟨Blk.new w (cv0.cs (none, 0, 0)) 33, Fr.alloc _⟩
theorem retC {w x : World} {g : Nat} {cs : List Value} (hb : Blk x g cs 33) (hl : cs.length = 6) (hf : Fr [] w x) (hg : w.heap.size ≤ g) (r : CV) (q : ShT) :
    ∃ w', stL x ⟨g, 0, none⟩ [.int .i64 r.k, .int .i64 r.nd, .int .i64 r.pt, .int .i64 r.ep, .int .i64 r.vr, .slice q.1 q.2.1 q.2.2] 0 = some w' ∧
      ldN w' ⟨g, 0, none⟩ 0 6 = some [.int .i64 r.k, .int .i64 r.nd, .int .i64 r.pt, .int .i64 r.ep, .int .i64 r.vr, .slice q.1 q.2.1 q.2.2] ∧ Fr [] w w' ∧ Fr [g] x w' := by
  obtain ⟨w', h1, h2, h3⟩ := hb.stL (vs := r.cs q) (by rw [hl]; rfl) (cvcs_oc r q)
  exact ⟨w', h1, h2.ldN (n := 6) rfl, (hf.app h3).mono (by intro y hy hl; simp at hy; omega), h3⟩
theorem newC (x : World) (r : CV) (q : ShT) : ∃ x', stL (x.alloc (.cells #[.int .i64 0, .int .i64 0, .int .i64 0, .int .i64 0, .int .i64 0, .slice none 0 0] 33)) ⟨x.heap.size, 0, none⟩ [.int .i64 r.k, .int .i64 r.nd, .int .i64 r.pt, .int .i64 r.ep, .int .i64 r.vr, .slice q.1 q.2.1 q.2.2] 0 = some x' ∧
    Blk x' x.heap.size (r.cs q) 33 ∧ Fr [] x x' ∧ ldN x' ⟨x.heap.size, 0, none⟩ 0 6 = some [.int .i64 r.k, .int .i64 r.nd, .int .i64 r.pt, .int .i64 r.ep, .int .i64 r.vr, .slice q.1 q.2.1 q.2.2] := by
  obtain ⟨b, f⟩ := zero33 x
  obtain ⟨x', h1, h2, h3⟩ := b.stL (vs := r.cs q) rfl (cvcs_oc r q)
  exact ⟨x', h1, h2, (f.app h3).mono (by intro y hy hl; simp at hy; omega), h2.ldN (n := 6) rfl⟩

def badC (r : CV) : Prop := r.k < 1 ∨ 5 < r.k ∨ 5 < r.ls.length
instance (r : CV) : Decidable (badC r) := by unfold badC; infer_instance
def cmdB (r : CV) : List Int := encI r.k ++ encI r.nd ++ encI r.pt ++ encI r.ep ++ encI r.vr ++ encL r.ls
def rd6 (s : RS) : CV × RS :=
  (⟨(intS s).1, (intS (intS s).2).1, (intS (intS (intS s).2).2).1, (intS (intS (intS (intS s).2).2).2).1, (intS (intS (intS (intS (intS s).2).2).2).2).1, (intsS (intS (intS (intS (intS (intS s).2).2).2).2).2).1⟩,
   (intsS (intS (intS (intS (intS (intS s).2).2).2).2).2).2)
def decC (bs : List Int) : CV × Int := if endS (rd6 ⟨bs, 0, 0⟩).2 ≠ 0 then (cv0, endS (rd6 ⟨bs, 0, 0⟩).2) else if badC (rd6 ⟨bs, 0, 0⟩).1 then (cv0, 1) else ((rd6 ⟨bs, 0, 0⟩).1, 0)

theorem rd6_enc {r : CV} (h : r.Ok) (hl : r.ls.length ≤ 4096) : rd6 ⟨cmdB r, 0, 0⟩ = (r, ⟨cmdB r, (cmdB r).length, 0⟩) := by
  obtain ⟨h1, h2, h3, h4, h5, hp⟩ := h
  have hB : cmdB r = encI r.k ++ (encI r.nd ++ (encI r.pt ++ (encI r.ep ++ (encI r.vr ++ (encL r.ls ++ []))))) := by simp [cmdB]
  obtain ⟨B, hBB⟩ : ∃ B, cmdB r = B := ⟨_, rfl⟩
  rw [hBB] at hB ⊢
  have d0 : (⟨B, 0, 0⟩ : RS).bs.drop (⟨B, 0, 0⟩ : RS).at_ = encI r.k ++ (encI r.nd ++ (encI r.pt ++ (encI r.ep ++ (encI r.vr ++ (encL r.ls ++ []))))) := by simpa using hB
  have e1 := intS_enc rfl d0 h1
  have d1 := drop_on d0
  have e2 := intS_enc (s := ⟨B, 0 + (encI r.k).length, 0⟩) rfl d1 h2
  have d2 := drop_on (s := ⟨B, 0 + (encI r.k).length, 0⟩) d1
  have e3 := intS_enc (s := ⟨B, 0 + (encI r.k).length + (encI r.nd).length, 0⟩) rfl d2 h3
  have d3 := drop_on (s := ⟨B, 0 + (encI r.k).length + (encI r.nd).length, 0⟩) d2
  have e4 := intS_enc (s := ⟨B, 0 + (encI r.k).length + (encI r.nd).length + (encI r.pt).length, 0⟩) rfl d3 h4
  have d4 := drop_on (s := ⟨B, 0 + (encI r.k).length + (encI r.nd).length + (encI r.pt).length, 0⟩) d3
  have e5 := intS_enc (s := ⟨B, 0 + (encI r.k).length + (encI r.nd).length + (encI r.pt).length + (encI r.ep).length, 0⟩) rfl d4 h5
  have d5 := drop_on (s := ⟨B, 0 + (encI r.k).length + (encI r.nd).length + (encI r.pt).length + (encI r.ep).length, 0⟩) d4
  have e6 := intsS_enc (s := ⟨B, 0 + (encI r.k).length + (encI r.nd).length + (encI r.pt).length + (encI r.ep).length + (encI r.vr).length, 0⟩) rfl d5 hl hp
  simp only at e1 e2 e3 e4 e5 e6
  unfold rd6
  simp only [e1, e2, e3, e4, e5, e6]
  congr 2
  rw [hB]
  simp [Nat.add_assoc]
theorem decC_enc {r : CV} (h : r.Ok) (hb : ¬ badC r) : decC (cmdB r) = (r, 0) := by
  have hl : r.ls.length ≤ 5 := by unfold badC at hb; omega
  unfold decC
  rw [rd6_enc h (by omega)]
  have : endS ⟨cmdB r, (cmdB r).length, 0⟩ = 0 := by unfold endS; rw [if_neg (by simp)]
  simp only [this, ne_eq, not_true_eq_false, if_false, if_neg hb]
theorem rd6_ok {s : RS} (h : s.Ok) : (rd6 s).1.Ok ∧ (rd6 s).2.Ok ∧ (rd6 s).1.ls.length ≤ 4096 := by
  have h1 := h.int
  have h2 := h1.2.1.int
  have h3 := h2.2.1.int
  have h4 := h3.2.1.int
  have h5 := h4.2.1.int
  have h6 := h5.2.1.ints
  exact ⟨⟨h1.1, h2.1, h3.1, h4.1, h5.1, h6.1⟩, h6.2.1, h6.2.2.2⟩

section
variable {w : World} {q : ShT} {r : CV}

theorem sameCmd29 (w : World) (r : CV) {q1 q2 : ShT} (hu : SlI .i64 w q1 r.ls) (hv : SlI .i64 w q2 r.ls) (hl : r.ls.length ≤ 4611686018427387904) : ∃ w', callF Try.prog 29 #[r.arg q1, r.arg q2] w = some (.bool true, w') ∧ Fr [] w w' := by
  have fa : Fr [] w (w.alloc (.cells #[.int .i64 r.k, .int .i64 r.nd, .int .i64 r.pt, .int .i64 r.ep, .int .i64 r.vr, .slice q1.1 q1.2.1 q1.2.2] 33)) := Fr.alloc _
  have ba := Blk.new w (r.cs q1) 33
  change Blk (w.alloc (.cells #[.int .i64 r.k, .int .i64 r.nd, .int .i64 r.pt, .int .i64 r.ep, .int .i64 r.vr, .slice q1.1 q1.2.1 q1.2.2] 33)) _ _ _ at ba
  obtain ⟨w1, hw1⟩ : ∃ w1, w.alloc (.cells #[.int .i64 r.k, .int .i64 r.nd, .int .i64 r.pt, .int .i64 r.ep, .int .i64 r.vr, .slice q1.1 q1.2.1 q1.2.2] 33) = w1 := ⟨_, rfl⟩
  rw [hw1] at fa ba
  have fb : Fr [] w1 (w1.alloc (.cells #[.int .i64 r.k, .int .i64 r.nd, .int .i64 r.pt, .int .i64 r.ep, .int .i64 r.vr, .slice q2.1 q2.2.1 q2.2.2] 33)) := Fr.alloc _
  have bb := Blk.new w1 (r.cs q2) 33
  change Blk (w1.alloc (.cells #[.int .i64 r.k, .int .i64 r.nd, .int .i64 r.pt, .int .i64 r.ep, .int .i64 r.vr, .slice q2.1 q2.2.1 q2.2.2] 33)) _ _ _ at bb
  obtain ⟨w2, hw2⟩ : ∃ w2, w1.alloc (.cells #[.int .i64 r.k, .int .i64 r.nd, .int .i64 r.pt, .int .i64 r.ep, .int .i64 r.vr, .slice q2.1 q2.2.1 q2.2.2] 33) = w2 := ⟨_, rfl⟩
  rw [hw2] at fb bb
  have ba2 := ba.fr fb (by simp)
  have F : Fr [] w w2 := (Fr.mono (Fr.app fa fb) (by have z0_ := Fr.size fa; have z1_ := Fr.size fb; intro y_ hy_ hl_; grind [blkOf]))
  obtain ⟨w3, e3, f3⟩ := same35 (hu.fr3 F (by simp)) (hv.fr3 F (by simp)) hl
  have a0 : w2.cell? ⟨w.heap.size, 0, none⟩ = some (.int .i64 r.k) := ba2.cell 0
  have a1 : w2.cell? ⟨w.heap.size, 1, none⟩ = some (.int .i64 r.nd) := ba2.cell 1
  have a2 : w2.cell? ⟨w.heap.size, 2, none⟩ = some (.int .i64 r.pt) := ba2.cell 2
  have a3 : w2.cell? ⟨w.heap.size, 3, none⟩ = some (.int .i64 r.ep) := ba2.cell 3
  have a4 : w2.cell? ⟨w.heap.size, 4, none⟩ = some (.int .i64 r.vr) := ba2.cell 4
  have a5 : w2.cell? ⟨w.heap.size, 5, none⟩ = some (.slice q1.1 q1.2.1 q1.2.2) := ba2.cell 5
  have b0 : w2.cell? ⟨w1.heap.size, 0, none⟩ = some (.int .i64 r.k) := bb.cell 0
  have b1 : w2.cell? ⟨w1.heap.size, 1, none⟩ = some (.int .i64 r.nd) := bb.cell 1
  have b2 : w2.cell? ⟨w1.heap.size, 2, none⟩ = some (.int .i64 r.pt) := bb.cell 2
  have b3 : w2.cell? ⟨w1.heap.size, 3, none⟩ = some (.int .i64 r.ep) := bb.cell 3
  have b4 : w2.cell? ⟨w1.heap.size, 4, none⟩ = some (.int .i64 r.vr) := bb.cell 4
  have b5 : w2.cell? ⟨w1.heap.size, 5, none⟩ = some (.slice q2.1 q2.2.1 q2.2.2) := bb.cell 5
  have s1 : ∀ z : Int, (z == z) = true := fun z => by simp
  refine ⟨w3, g29_call ?_, (Fr.mono (Fr.app F f3) (by have z0_ := Fr.size F; have z1_ := Fr.size f3; intro y_ hy_ hl_; grind [blkOf]))⟩
  unfold g29
  rw [hw1, hw2]
  simp only [a0, b0, s1, addr_add, Nat.zero_add, a1, b1, a2, b2, a3, b3, a4, b4, a5, b5, e3, obs, asP_pointer, asB_bool, asI_int, asS_string, asSl_slice, asM_map, asTup0, asTup1, asTup2, asTup3, asTup4, asTup5, asTup6, asTup7, asTup8, asTup9, asAgg2, asAgg3, asAgg4, asAgg5, asAgg6, asAgg7, asAgg8, asAgg9, asAgg12, getD0, getD1, getD2, getD3, getD4, getD5, getD6, getD7, getD8, getD9, getD10, getD11, getD12, getD13, getD14, getD15, getD16, getD17, getD18, getD19, Bool.not_true, Bool.not_false, Bool.false_eq_true, Bool.true_eq_false, ↓reduceIte, decide_true, decide_false, Option.isNone_some, Option.isNone_none, Option.isSome_some, Option.isSome_none, beq_self_eq_true, bne_self_eq_false, Bool.and_true, Bool.true_and, Bool.and_false, Bool.false_and, not_true_eq_false, not_false_eq_true]

theorem own14 (w : World) (r : CV) {q : ShT} (hu : SlI .i64 w q r.ls) (hl : r.ls.length ≤ 17592186043904) : ∃ v w', callF Try.prog 14 #[r.arg q] w = some (r.arg v, w') ∧ Own w' 3 1 v (numsV r.ls) ∧ Fr [] w w' ∧ ∀ y ∈ blkOf v, w.heap.size ≤ y := by
  have fa : Fr [] w (w.alloc (.cells #[.int .i64 r.k, .int .i64 r.nd, .int .i64 r.pt, .int .i64 r.ep, .int .i64 r.vr, .slice q.1 q.2.1 q.2.2] 33)) := Fr.alloc _
  have ba := Blk.new w (r.cs q) 33
  change Blk (w.alloc (.cells #[.int .i64 r.k, .int .i64 r.nd, .int .i64 r.pt, .int .i64 r.ep, .int .i64 r.vr, .slice q.1 q.2.1 q.2.2] 33)) _ _ _ at ba
  obtain ⟨w1, hw1⟩ : ∃ w1, w.alloc (.cells #[.int .i64 r.k, .int .i64 r.nd, .int .i64 r.pt, .int .i64 r.ep, .int .i64 r.vr, .slice q.1 q.2.1 q.2.2] 33) = w1 := ⟨_, rfl⟩
  rw [hw1] at fa ba
  obtain ⟨bz, fz⟩ := zero33 w1
  obtain ⟨w2, hw2⟩ : ∃ w2, w1.alloc (.cells #[.int .i64 0, .int .i64 0, .int .i64 0, .int .i64 0, .int .i64 0, .slice none 0 0] 33) = w2 := ⟨_, rfl⟩
  rw [hw2] at bz fz
  have F2 : Fr [] w w2 := (Fr.mono (Fr.app fa fz) (by have z0_ := Fr.size fa; have z1_ := Fr.size fz; intro y_ hy_ hl_; grind [blkOf]))
  obtain ⟨v, w3, e3, o3, f3, n3⟩ := copyN (hu.fr3 F2 (by simp)) hl
  have fe : Fr [] w2 (w2.alloc (.cells #[] 3)) := Fr.alloc _
  have c5 : (w2.alloc (.cells #[] 3)).cell? ⟨w.heap.size, 5, none⟩ = some (.slice q.1 q.2.1 q.2.2) := ((ba.fr fz (by simp)).fr fe (by simp)).cell 5
  have b3 := (ba.fr fz (by simp)).fr f3 (by simp)
  have z3 := bz.fr f3 (by simp)
  have z1 := fa.size
  have z2 := fz.size
  obtain ⟨w4, hw4⟩ : ∃ w4, w3.setCell ⟨w.heap.size, 5, none⟩ (.slice v.1 v.2.1 v.2.2) = w4 := ⟨_, rfl⟩
  have s4 : st1 w3 ⟨w.heap.size, 5, none⟩ (.slice v.1 v.2.1 v.2.2) = some w4 := by rw [← hw4]; exact b3.st1 (by simp [CV.cs]) rfl
  have b4 : Blk w4 w.heap.size (r.cs v) 33 := by rw [← hw4]; exact b3.set 5 _
  have f4 : Fr [w.heap.size] w3 w4 := by rw [← hw4]; exact Fr.setCell
  have l4 := b4.ldN (n := 6) rfl
  have lb := ba.lt
  have z4 := z3.fr f4 (by simp; omega)
  have F4 : Fr [] w w4 := ((Fr.mono (Fr.app F2 f3) (by have z0_ := Fr.size F2; have z1_ := Fr.size f3; intro y_ hy_ hl_; grind [blkOf])) : Fr [] w w3).app f4 |>.mono (by intro y hy hl; simp at hy; omega)
  obtain ⟨w', r1, r2, r3, r4⟩ := retC z4 rfl F4 z1 r v
  have o4 := (o3.fr f4 (by intro y hy hm; simp at hm; have := n3 y hy; omega)).fr r4 (by intro y hy hm; simp at hm; have := n3 y hy; have := bz.lt; omega)
  refine ⟨v, w', g14_call ?_, o4, r3, fun y hy => by have := n3 y hy; omega⟩
  unfold g14
  simp only [hw1, hw2]
  simp only [CV.cs] at l4
  simp only [addr_add, Nat.zero_add, c5, e3, s4, l4, r1, r2, obs, asP_pointer, asB_bool, asI_int, asS_string, asSl_slice, asM_map, asTup0, asTup1, asTup2, asTup3, asTup4, asTup5, asTup6, asTup7, asTup8, asTup9, asAgg2, asAgg3, asAgg4, asAgg5, asAgg6, asAgg7, asAgg8, asAgg9, asAgg12, getD0, getD1, getD2, getD3, getD4, getD5, getD6, getD7, getD8, getD9, getD10, getD11, getD12, getD13, getD14, getD15, getD16, getD17, getD18, getD19, Bool.not_true, Bool.not_false, Bool.false_eq_true, Bool.true_eq_false, ↓reduceIte, decide_true, decide_false, Option.isNone_some, Option.isNone_none, Option.isSome_some, Option.isSome_none, beq_self_eq_true, bne_self_eq_false, Bool.and_true, Bool.true_and, Bool.and_false, Bool.false_and, not_true_eq_false, not_false_eq_true]
  rfl
end
end Go.Proofs.Ytjcenfgmpbeldaa
