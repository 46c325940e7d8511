/-
  GroupD: lemmas on what Go functions of this seat come to (for whatever arguments, as each says). No condition but those that stand in each lemma.
-/
import Derived.Test.YtcakijeoeankfaaGroupC
import Derived.Test.YtcakijeoeankfaaGroupSp
namespace Go.Proofs.Ytcakijeoeankfaa
open Go Go.Ev
set_option maxRecDepth 100000
set_option linter.unusedVariables false
set_option linter.unusedSimpArgs false

abbrev intsV' (l : List Int) : List Value := l.map (Value.int .i64)

/-- a record of a group -/
structure GV where
  k : Int
  grp : Int
  gen : Int
  mem : List Int
  part : Int
  off : Int
def gv0 : GV := ⟨0, 0, 0, [], 0, 0⟩
def GV.cs (r : GV) (q : Option Addr × Nat × Nat) : List Value := [.int .i64 r.k, .int .i64 r.grp, .int .i64 r.gen, .slice q.1 q.2.1 q.2.2, .int .i64 r.part, .int .i64 r.off]
def GV.arg (r : GV) (q : Option Addr × Nat × Nat) : Value := .agg #[.int .i64 r.k, .int .i64 r.grp, .int .i64 r.gen, .slice q.1 q.2.1 q.2.2, .int .i64 r.part, .int .i64 r.off]
theorem gvcs_oc (r : GV) (q : Option Addr × Nat × Nat) : ∀ u ∈ r.cs q, u.oneCell' = true := by
  intro u hu
  simp only [GV.cs, List.mem_cons, List.not_mem_nil, or_false] at hu
  rcases hu with rfl | rfl | rfl | rfl | rfl | rfl <;> rfl
theorem zero27 (w : World) : Blk (w.alloc (.cells #[.int .i64 0, .int .i64 0, .int .i64 0, .slice none 0 0, .int .i64 0, .int .i64 0] 27)) w.heap.size (gv0.cs (none, 0, 0)) 27 ∧
    Fr [] w (w.alloc (.cells #[.int .i64 0, .int .i64 0, .int .i64 0, .slice none 0 0, .int .i64 0, .int .i64 0] 27)) := ⟨Blk.new w (gv0.cs (none, 0, 0)) 27, Fr.alloc _⟩

/-- a result is written, and read back -/
theorem retG {w x : World} {g : Nat} {cs : List Value} (hb : Blk x g cs 27) (hl : cs.length = 6) (hf : Fr [] w x) (hg : w.heap.size ≤ g) (r : GV) (q : Option Addr × Nat × Nat) :
    ∃ w', stL x ⟨g, 0, none⟩ [.int .i64 r.k, .int .i64 r.grp, .int .i64 r.gen, .slice q.1 q.2.1 q.2.2, .int .i64 r.part, .int .i64 r.off] 0 = some w' ∧
      ldN w' ⟨g, 0, none⟩ 0 6 = some [.int .i64 r.k, .int .i64 r.grp, .int .i64 r.gen, .slice q.1 q.2.1 q.2.2, .int .i64 r.part, .int .i64 r.off] ∧ Fr [] w w' ∧ Fr [g] x w' := by
  obtain ⟨w', h1, h2, h3⟩ := hb.stL (vs := r.cs q) (by rw [hl]; rfl) (gvcs_oc r q)
  exact ⟨w', h1, h2.ldN (n := 6) rfl, (hf.app h3).mono (by intro y hy hl; simp at hy; omega), h3⟩

/-- a record in a block of its own -/
theorem newG (x : World) (r : GV) (q : Option Addr × Nat × Nat) : ∃ x', stL (x.alloc (.cells #[.int .i64 0, .int .i64 0, .int .i64 0, .slice none 0 0, .int .i64 0, .int .i64 0] 27)) ⟨x.heap.size, 0, none⟩ [.int .i64 r.k, .int .i64 r.grp, .int .i64 r.gen, .slice q.1 q.2.1 q.2.2, .int .i64 r.part, .int .i64 r.off] 0 = some x' ∧
    Blk x' x.heap.size (r.cs q) 27 ∧ Fr [] x x' ∧ ldN x' ⟨x.heap.size, 0, none⟩ 0 6 = some [.int .i64 r.k, .int .i64 r.grp, .int .i64 r.gen, .slice q.1 q.2.1 q.2.2, .int .i64 r.part, .int .i64 r.off] := by
  obtain ⟨b, f⟩ := zero27 x
  obtain ⟨x', h1, h2, h3⟩ := b.stL (vs := r.cs q) rfl (gvcs_oc r q)
  exact ⟨x', h1, h2, (f.app h3).mono (by intro y hy hl; simp at hy; omega), h2.ldN (n := 6) rfl⟩

theorem awake9 (w : World) : ∃ w', callF Try.prog 9 #[] w = some (.bool true, w') ∧ Fr [] w w' := by
  -- New
  have f1 : Fr [] w (w.alloc (.map #[] 0)) := Fr.alloc _
  have m1 := MapAt.new (Value.int .i64) w
  have z1 : (w.alloc (.map #[] 0)).heap.size = w.heap.size + 1 := Array.size_push _
  have e0 : callF Try.prog 19 #[] w = some (.pointer (some ⟨((w.alloc (.map #[] 0)).alloc (.map #[] 0)).heap.size, 0, none⟩), ((w.alloc (.map #[] 0)).alloc (.map #[] 0)).alloc (.cells #[.map (some w.heap.size), .map (some (w.alloc (.map #[] 0)).heap.size)] 87)) := g19_call rfl
  generalize w.alloc (.map #[] 0) = w1 at *
  have f2 : Fr [] w1 (w1.alloc (.map #[] 0)) := Fr.alloc _
  have z2 : (w1.alloc (.map #[] 0)).heap.size = w1.heap.size + 1 := Array.size_push _
  generalize w1.alloc (.map #[] 0) = w2 at *
  have f3 : Fr [] w2 (w2.alloc (.cells #[.map (some w.heap.size), .map (some w1.heap.size)] 87)) := Fr.alloc _
  have b3 : Blk (w2.alloc (.cells #[.map (some w.heap.size), .map (some w1.heap.size)] 87)) w2.heap.size [.map (some w.heap.size), .map (some w1.heap.size)] 87 := Blk.new w2 [.map (some w.heap.size), .map (some w1.heap.size)] 87
  generalize w2.alloc (.cells #[.map (some w.heap.size), .map (some w1.heap.size)] 87) = w3 at *
  have m3 := (m1.fr f2 (by simp)).fr f3 (by simp)
  -- Join
  have f4 : Fr [] w3 (w3.alloc (.cells #[.int .i64 2] 3)) := Fr.alloc _
  have b4 : Blk (w3.alloc (.cells #[.int .i64 2] 3)) w3.heap.size [.int .i64 2] 3 := Blk.new w3 [.int .i64 2] 3
  obtain ⟨w4, hw4⟩ : ∃ w4, w3.alloc (.cells #[.int .i64 2] 3) = w4 := ⟨_, rfl⟩
  rw [hw4] at f4 b4
  obtain ⟨b5, f5⟩ := zero27 w4
  obtain ⟨w5, hw5⟩ : ∃ w5, w4.alloc (.cells #[.int .i64 0, .int .i64 0, .int .i64 0, .slice none 0 0, .int .i64 0, .int .i64 0] 27) = w5 := ⟨_, rfl⟩
  rw [hw5] at f5 b5
  have c2 : w5.cell? ⟨w3.heap.size, 0, none⟩ = some (.int .i64 2) := (b4.fr f5 (by simp)).cell 0
  have m5 := (m3.fr f4 (by simp)).fr f5 (by simp)
  have s5 : w5.cell? ⟨w2.heap.size, 0, none⟩ = some (.map (some w.heap.size)) := ((b3.fr f4 (by simp)).fr f5 (by simp)).cell 0
  have lk : mLook (.int .i64) w5 (some w.heap.size) (.int .i64 0) = some none := m5.look (keyOk_int .i64) 0
  have e23 : callF Try.prog 23 #[.pointer (some ⟨w2.heap.size, 0, none⟩), .int .i64 0] w5 = some (.tuple #[.int .i64 0, .slice none 0 0], w5) := by
    refine g23_call ?_
    unfold g23
    simp only [s5, lk, Option.getD_none, obs, asP_pointer, asB_bool, asI_int, asS_string, asSl_slice, asM_map, asTup0, asTup1, asTup2, asTup3, asTup4, asTup5, asTup6, asTup7, asTup8, asTup9, asAgg2, asAgg3, asAgg4, asAgg5, asAgg6, asAgg7, asAgg8, asAgg9, asAgg12, getD0, getD1, getD2, getD3, getD4, getD5, getD6, getD7, getD8, getD9, getD10, getD11, getD12, getD13, getD14, getD15, getD16, getD17, getD18, getD19, Bool.not_true, Bool.not_false, Bool.false_eq_true, Bool.true_eq_false, ↓reduceIte, decide_true, decide_false, Option.isNone_some, Option.isNone_none, Option.isSome_some, Option.isSome_none, beq_self_eq_true, bne_self_eq_false, Bool.and_true, Bool.true_and, Bool.and_false, Bool.false_and, not_true_eq_false, not_false_eq_true]
  have e45 := contains32 (w := w5) (q := (none, 0, 0)) (l := []) ⟨rfl, by simp⟩ (by simp) 2
  have k45 : decide ((2 : Int) ∈ ([] : List Int)) = false := by simp
  rw [k45] at e45
  have hml : maxLen = 9223372036854775807 := by decide
  obtain ⟨q6, w6, e6, o6, f6, n6, l6⟩ := app_one t28 (w := w5) (Own.nil w5 3 1) (ys := [.int .i64 2]) rfl (by intro y hy; simp at hy; subst hy; rfl) (by show 0 + 1 ≤ maxLen; omega) (by simp) 22 #[false, false]
  obtain ⟨l', w7, e7, o7, f7, pm, _⟩ := sort33s (w := w6) (q := q6) (l := [2]) o6 (by simp)
  have hl' : l' = [2] := List.perm_singleton.mp pm
  subst hl'
  have z4 := f4.size
  have z5 := f5.size
  have z6 := f6.size
  have lb5 := b5.lt
  have nq : ∀ y ∈ blkOf q6, w5.heap.size ≤ y := fun y hy => by
    rcases n6 y hy with hh | hh
    · simp [blkOf] at hh
    · exact hh
  have F6 : Fr [] w5 w6 := f6.mono (by intro y hy _; simp [blkOf] at hy)
  have F7 : Fr [] w5 w7 := (F6.app f7).mono (by intro y hy hl; simp at hy; have := nq y hy; omega)
  have b57 := b5.fr F7 (by simp)
  have FW : Fr [] w3 w7 := (Fr.mono (Fr.app (Fr.app f4 f5) F7) (by have z0_ := Fr.size f4; have z1_ := Fr.size f5; have z2_ := Fr.size F7; intro y_ hy_ hl_; grind [blkOf]))
  obtain ⟨w8, r1, r2, r3, r4⟩ := retG b57 rfl FW (by omega) ⟨1, 0, 1, [2], 0, 0⟩ q6
  have o8 := o7.fr r4 (fun y hy hm => by simp at hm; have := nq y hy; omega)
  have e25 : callF Try.prog 25 #[.pointer (some ⟨w2.heap.size, 0, none⟩), .int .i64 0, .int .i64 2, .bool true] w3 = some (.tuple #[(⟨1, 0, 1, [2], 0, 0⟩ : GV).arg q6, .bool true, .int .i64 0], w8) := by
    refine g25_call ?_
    have k1 : decide ((0 : Int) < 0) = false := rfl
    have k2 : decide ((0 : Int) ≥ 8) = false := rfl
    have k3 : decide ((2 : Int) < 0) = false := rfl
    have k4 : (false == true) = false := rfl
    have k5 : (((0 : Nat) : Int) == 8) = false := rfl
    have k6 : IntKind.i64.wrap (0 + 1) = 1 := by decide
    unfold g25
    simp only [hw4, hw5, k1, k2, c2, k3, e23, e45, k4, k5, e6, e7, g25_j51, k6, r1, r2, obs, asP_pointer, asB_bool, asI_int, asS_string, asSl_slice, asM_map, asTup0, asTup1, asTup2, asTup3, asTup4, asTup5, asTup6, asTup7, asTup8, asTup9, asAgg2, asAgg3, asAgg4, asAgg5, asAgg6, asAgg7, asAgg8, asAgg9, asAgg12, getD0, getD1, getD2, getD3, getD4, getD5, getD6, getD7, getD8, getD9, getD10, getD11, getD12, getD13, getD14, getD15, getD16, getD17, getD18, getD19, Bool.not_true, Bool.not_false, Bool.false_eq_true, Bool.true_eq_false, ↓reduceIte, decide_true, decide_false, Option.isNone_some, Option.isNone_none, Option.isSome_some, Option.isSome_none, beq_self_eq_true, bne_self_eq_false, Bool.and_true, Bool.true_and, Bool.and_false, Bool.false_and, not_true_eq_false, not_false_eq_true]
    rfl
  obtain ⟨w9, s9, b9, f9, _⟩ := newG w8 ⟨1, 0, 1, [2], 0, 0⟩ q6
  have o9 := o8.fr f9 (by simp)
  obtain ⟨a, off, qa, i1, c1⟩ := ints_at (w := w9) (q := q6) (l := [2]) o9 (i := 0) (by simp)
  have hq6 : q6.2.1 = 1 := by have := o9.len; simp at this; omega
  have c1' : w9.cell? ⟨a, off + 0, none⟩ = some (.int .i64 2) := c1
  have i1' : idxA q6.1 q6.2.1 1 0 = some ⟨a, off + 0, none⟩ := i1
  have d0 : w9.cell? ⟨w8.heap.size, 0, none⟩ = some (.int .i64 1) := b9.cell 0
  have d2 : w9.cell? ⟨w8.heap.size, 2, none⟩ = some (.int .i64 1) := b9.cell 2
  have d3 : w9.cell? ⟨w8.heap.size, 3, none⟩ = some (.slice q6.1 q6.2.1 q6.2.2) := b9.cell 3
  refine ⟨w9, g9_call ?_, (Fr.mono (Fr.app (Fr.app (Fr.app (Fr.app f1 f2) f3) r3) f9) (by have z0_ := Fr.size f1; have z1_ := Fr.size f2; have z2_ := Fr.size f3; have z3_ := Fr.size r3; have z4_ := Fr.size f9; intro y_ hy_ hl_; grind [blkOf]))⟩
  simp only [GV.arg] at e25
  have kq : (((q6.2.1 : Nat) : Int) == 1) = true := by rw [hq6]; rfl
  unfold g9
  simp only [e0, e25, s9, d0, addr_add, Nat.zero_add, d2, d3, kq, i1', c1', obs, asP_pointer, asB_bool, asI_int, asS_string, asSl_slice, asM_map, asTup0, asTup1, asTup2, asTup3, asTup4, asTup5, asTup6, asTup7, asTup8, asTup9, asAgg2, asAgg3, asAgg4, asAgg5, asAgg6, asAgg7, asAgg8, asAgg9, asAgg12, getD0, getD1, getD2, getD3, getD4, getD5, getD6, getD7, getD8, getD9, getD10, getD11, getD12, getD13, getD14, getD15, getD16, getD17, getD18, getD19, Bool.not_true, Bool.not_false, Bool.false_eq_true, Bool.true_eq_false, ↓reduceIte, decide_true, decide_false, Option.isNone_some, Option.isNone_none, Option.isSome_some, Option.isSome_none, beq_self_eq_true, bne_self_eq_false, Bool.and_true, Bool.true_and, Bool.and_false, Bool.false_and, not_true_eq_false, not_false_eq_true]
end Go.Proofs.Ytcakijeoeankfaa
