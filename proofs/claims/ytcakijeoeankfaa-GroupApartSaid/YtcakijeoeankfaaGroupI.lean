/-
  GroupI: lemmas on what Go functions of this seat come to (for whatever arguments, as each says). No condition but those that stand in each lemma.
-/
import Derived.Test.YtcakijeoeankfaaGroupH
import Derived.Test.YtcakijeoeankfaaGroupU
import Derived.Test.YtcakijeoeankfaaGroupF2
namespace Go.Proofs.Ytcakijeoeankfaa
open Go Go.Ev
set_option maxRecDepth 100000
set_option linter.unusedVariables false
set_option linter.unusedSimpArgs false

/-- a batch -/
def btA (pid : Int) (txn ctl com : Bool) (v : Option Addr × Nat × Nat) : Value := .agg #[.int .i64 0, .int .i64 0, .int .u64 pid, .int .i64 0, .int .i64 0, .bool txn, .bool ctl, .bool com, .slice v.1 v.2.1 v.2.2]
def btCs (pid : Int) (txn ctl com : Bool) (v : Option Addr × Nat × Nat) : List Value := [.int .i64 0, .int .i64 0, .int .u64 pid, .int .i64 0, .int .i64 0, .bool txn, .bool ctl, .bool com, .slice v.1 v.2.1 v.2.2]
theorem btcs_oc (pid : Int) (txn ctl com : Bool) (v : Option Addr × Nat × Nat) : ∀ u ∈ btCs pid txn ctl com v, u.oneCell' = true := by
  intro u hu
  simp only [btCs, List.mem_cons, List.not_mem_nil, or_false] at hu
  rcases hu with rfl | rfl | rfl | rfl | rfl | rfl | rfl | rfl | rfl <;> rfl
theorem t48 : TSl Try.prog 48 28 1 24 := tsl_of Try.underlying48 (by kernel_rfl)
theorem t55 : TSl Try.prog 55 27 6 64 := tsl_of Try.underlying55 (by kernel_rfl)

section
variable {w : World} {D : Nat → Prop} {b : Nat} {T : List (Int × TV)} {ps : List (Int × Value)}

theorem batch21 (w : World) {pid : Int} {r : GV} {u q : Option Addr × Nat × Nat} (hul : u.2.1 = 1) (hu : SlC w 6 u (r.cs q)) (hq : SlI .i64 w q r.mem) (hr : r.Ok) (hb : ¬ badG r) :
    ∃ v e w', callF Try.prog 21 #[.int .u64 pid, .slice u.1 u.2.1 u.2.2] w = some (btA pid (decide (pid > 0)) false false v, w') ∧ Own w' 28 1 v [.slice e.1 e.2.1 e.2.2] ∧ Own w' 5 1 e (bytesV (grB r)) ∧ Fr [] w w' ∧ (∀ y ∈ blkOf v, w.heap.size ≤ y) ∧ (∀ y ∈ blkOf e, w.heap.size ≤ y) := by
  have hml : maxLen = 9223372036854775807 := by decide
  have hb' : ¬ 8 < r.mem.length := by unfold badG at hb; omega
  have f1 : Fr [] w (w.alloc (.cells #[.int .i64 0, .int .i64 0, .int .u64 0, .int .i64 0, .int .i64 0, .bool false, .bool false, .bool false, .slice none 0 0] 50)) := Fr.alloc _
  have b1 := Blk.new w (btCs 0 false false false (none, 0, 0)) 50
  change Blk (w.alloc (.cells #[.int .i64 0, .int .i64 0, .int .u64 0, .int .i64 0, .int .i64 0, .bool false, .bool false, .bool false, .slice none 0 0] 50)) _ _ _ at b1
  obtain ⟨w1, hw1⟩ : ∃ w1, w.alloc (.cells #[.int .i64 0, .int .i64 0, .int .u64 0, .int .i64 0, .int .i64 0, .bool false, .bool false, .bool false, .slice none 0 0] 50) = w1 := ⟨_, rfl⟩
  rw [hw1] at f1 b1
  have f2 : Fr [] w1 (w1.alloc (.cells #[.int .i64 0, .int .i64 0, .int .u64 0, .int .i64 0, .int .i64 0, .bool false, .bool false, .bool false, .slice none 0 0] 50)) := Fr.alloc _
  have b2 := Blk.new w1 (btCs 0 false false false (none, 0, 0)) 50
  change Blk (w1.alloc (.cells #[.int .i64 0, .int .i64 0, .int .u64 0, .int .i64 0, .int .i64 0, .bool false, .bool false, .bool false, .slice none 0 0] 50)) _ _ _ at b2
  obtain ⟨w2, hw2⟩ : ∃ w2, w1.alloc (.cells #[.int .i64 0, .int .i64 0, .int .u64 0, .int .i64 0, .int .i64 0, .bool false, .bool false, .bool false, .slice none 0 0] 50) = w2 := ⟨_, rfl⟩
  rw [hw2] at f2 b2
  obtain ⟨w3, s3, b3, f3⟩ := b2.stL (vs := btCs pid (decide (pid > 0)) false false (none, 0, 0)) rfl (btcs_oc _ _ _ _ _)
  simp only [btCs] at s3
  have z1 := f1.size
  have z2 := f2.size
  have lb1 := b1.lt
  have b13 := (b1.fr f2 (by simp)).fr f3 (by simp; omega)
  have F3 : Fr [] w w3 := (((Fr.mono (Fr.app f1 f2) (by have z0_ := Fr.size f1; have z1_ := Fr.size f2; intro y_ hy_ hl_; grind [blkOf])) : Fr [] w w2).app f3).mono (by intro y hy hl; simp at hy; omega)
  -- the record is read
  have hu3 := hu.fr F3 (by simp)
  obtain ⟨g, off, i1, cc⟩ := hu3.idx (by decide) (i := 0) (by omega)
  have ld : ldN w3 ⟨g, off + 0 * 6, none⟩ 0 6 = some (r.cs q) := ldN_of_cells (cs := r.cs q) (i := 0) fun j hj => by
    have hj6 : j < 6 := hj
    have := cc j hj6 (by simpa [GV.cs] using hj6)
    rw [addr_add, Nat.zero_add, this]
    simp
  simp only [GV.cs] at ld
  obtain ⟨w4, s4, b4, f4, l4⟩ := newG w3 r q
  have F4 : Fr [] w w4 := (Fr.mono (Fr.app F3 f4) (by have z0_ := Fr.size F3; have z1_ := Fr.size f4; intro y_ hy_ hl_; grind [blkOf]))
  obtain ⟨e, w5, e5, o5, f5, n5⟩ := docenc12 w4 r (hq.fr3 F4 (by simp)) hr (by omega)
  rw [if_neg hb] at o5
  simp only [hb, if_false, GV.arg] at e5
  have F35 : Fr [] w3 w5 := (Fr.mono (Fr.app f4 f5) (by have z0_ := Fr.size f4; have z1_ := Fr.size f5; intro y_ hy_ hl_; grind [blkOf]))
  have b35 := b3.fr F35 (by simp)
  have c8 : w5.cell? ⟨w1.heap.size, 8, none⟩ = some (.slice none 0 0) := b35.cell 8
  obtain ⟨v, w6, e6, o6, f6, n6, m6⟩ := app_one t48 (w := w5) (Own.nil w5 28 1) (ys := [.slice e.1 e.2.1 e.2.2]) rfl (by intro y hy; simp at hy; subst hy; rfl) (by show 0 + 1 ≤ maxLen; omega) (by simp) 48 #[false, false]
  have e6' : callB Try.prog .append #[48, 48] 48 #[false, false] #[.slice none 0 0, .slice (some ⟨w5.heap.size, 0, none⟩) 1 1] (w5.alloc (.cells #[.slice e.1 e.2.1 e.2.2] 28)) = some (.slice v.1 v.2.1 v.2.2, w6) := e6
  have f6' : Fr [] w5 w6 := by simpa [blkOf] using f6
  have n6' : ∀ y ∈ blkOf v, w5.heap.size ≤ y := fun y hy => by
    rcases n6 y hy with hh | hh
    · simp [blkOf] at hh
    · exact hh
  have b36 := b35.fr f6' (by simp)
  have s7 : st1 w6 ⟨w1.heap.size, 8, none⟩ (.slice v.1 v.2.1 v.2.2) = some (w6.setCell ⟨w1.heap.size, 8, none⟩ (.slice v.1 v.2.1 v.2.2)) := b36.st1 (by simp [btCs]) rfl
  have f7 : Fr [w1.heap.size] w6 (w6.setCell ⟨w1.heap.size, 8, none⟩ (.slice v.1 v.2.1 v.2.2)) := Fr.setCell
  have b7 : Blk (w6.setCell ⟨w1.heap.size, 8, none⟩ (.slice v.1 v.2.1 v.2.2)) w1.heap.size (btCs pid (decide (pid > 0)) false false v) 50 := b36.set 8 _
  obtain ⟨w7, hw7⟩ : ∃ w7, w6.setCell ⟨w1.heap.size, 8, none⟩ (.slice v.1 v.2.1 v.2.2) = w7 := ⟨_, rfl⟩
  rw [hw7] at s7 f7 b7
  have z5 := F35.size
  have z35 : w3.heap.size = w2.heap.size ∨ w2.heap.size ≤ w3.heap.size := .inr f3.size
  have lb2 := b2.lt
  have z4s := f4.size
  have z5s := f5.size
  have hw23 := f3.size
  have ne1 : ∀ y, w5.heap.size ≤ y → y ≠ w1.heap.size := fun y hy => by omega
  have oe7 := (o5.fr f6' (by simp)).fr f7 (by intro y hy hm; simp at hm; have := n5 y hy; omega)
  have ov7 := o6.fr f7 (by intro y hy hm; simp at hm; have := n6' y hy; omega)
  -- one round, and the end
  have r0 : g21_l3_b u w 0 w3 = some (.normal, 1, w7) := by
    have k0 : decide ((0 : Int) < (u.2.1 : Int)) = true := by rw [hul]; rfl
    have i1' : idxA u.1 u.2.1 6 0 = some ⟨g, off + 0 * 6, none⟩ := i1
    have kw : IntKind.i64.wrap (0 + 1) = 1 := by decide
    unfold g21_l3_b
    rw [hw1]
    simp only [k0, i1', ld, s4, l4, e5, addr_add, Nat.zero_add, c8, e6', s7, kw, obs, asP_pointer, asB_bool, asI_int, asS_string, asSl_slice, asM_map, asTup0, asTup1, asTup2, asTup3, asTup4, asTup5, asTup6, asTup7, asTup8, asTup9, asAgg2, asAgg3, asAgg4, asAgg5, asAgg6, asAgg7, asAgg8, asAgg9, asAgg12, getD0, getD1, getD2, getD3, getD4, getD5, getD6, getD7, getD8, getD9, getD10, getD11, getD12, getD13, getD14, getD15, getD16, getD17, getD18, getD19, Bool.not_true, Bool.not_false, Bool.false_eq_true, Bool.true_eq_false, ↓reduceIte, decide_true, decide_false, Option.isNone_some, Option.isNone_none, Option.isSome_some, Option.isSome_none, beq_self_eq_true, bne_self_eq_false, Bool.and_true, Bool.true_and, Bool.and_false, Bool.false_and, not_true_eq_false, not_false_eq_true]
  obtain ⟨t, w8, g1, rfl, rfl⟩ := loopS_countX 0 (b := g21_l3_b u w) (n := 1) (I := fun k s x => if k = 0 then s = 0 ∧ x = w3 else s = 1 ∧ x = w7)
    (fun k s x hk hI => by
      have : k = 0 := by omega
      subst this
      obtain ⟨rfl, rfl⟩ := hI
      exact ⟨_, _, r0, by simp⟩)
    (fun s x hI => by
      obtain ⟨rfl, rfl⟩ := hI
      unfold g21_l3_b
      have k0 : decide ((1 : Int) < (u.2.1 : Int)) = false := by rw [hul]; rfl
      simp only [k0, Bool.false_eq_true, if_false]) (k := 0) (s := 0) (w := w3) (by omega) ⟨rfl, rfl⟩
  have F37 : Fr [] w3 w6 := (Fr.mono (Fr.app F35 f6') (by have z0_ := Fr.size F35; have z1_ := Fr.size f6'; intro y_ hy_ hl_; grind [blkOf]))
  have b18 := (b13.fr F37 (by simp)).fr f7 (by simp; omega)
  have l8 := b7.ldN (n := 9) rfl
  obtain ⟨w9, s9, b9, f9⟩ := b18.stL (vs := btCs pid (decide (pid > 0)) false false v) rfl (btcs_oc _ _ _ _ _)
  have l9 := b9.ldN (n := 9) rfl
  simp only [btCs] at l8 s9 l9
  have F6 : Fr [] w w6 := (Fr.mono (Fr.app F3 F37) (by have z0_ := Fr.size F3; have z1_ := Fr.size F37; intro y_ hy_ hl_; grind [blkOf]))
  have F9 : Fr [] w w9 := ((F6.app f7).app f9).mono (by intro y hy hl; simp at hy; omega)
  refine ⟨v, e, w9, g21_call ?_, ov7.fr f9 (by intro y hy hm; simp at hm; have := n6' y hy; omega), oe7.fr f9 (by intro y hy hm; simp at hm; have := n5 y hy; omega), F9, fun y hy => by have := n6' y hy; omega, fun y hy => by have := n5 y hy; omega⟩
  unfold g21
  simp only [hw1, hw2]
  simp only [s3, obs, asP_pointer, asB_bool, asI_int, asS_string, asSl_slice, asM_map, asTup0, asTup1, asTup2, asTup3, asTup4, asTup5, asTup6, asTup7, asTup8, asTup9, asAgg2, asAgg3, asAgg4, asAgg5, asAgg6, asAgg7, asAgg8, asAgg9, asAgg12, getD0, getD1, getD2, getD3, getD4, getD5, getD6, getD7, getD8, getD9, getD10, getD11, getD12, getD13, getD14, getD15, getD16, getD17, getD18, getD19, Bool.not_true, Bool.not_false, Bool.false_eq_true, Bool.true_eq_false, ↓reduceIte, decide_true, decide_false, Option.isNone_some, Option.isNone_none, Option.isSome_some, Option.isSome_none, beq_self_eq_true, bne_self_eq_false, Bool.and_true, Bool.true_and, Bool.and_false, Bool.false_and, not_true_eq_false, not_false_eq_true]
  rw [g21_l3_x0_of g1]
  unfold g21_l3_x0
  simp only [hw1]
  simp only [l8, s9, l9, obs, asP_pointer, asB_bool, asI_int, asS_string, asSl_slice, asM_map, asTup0, asTup1, asTup2, asTup3, asTup4, asTup5, asTup6, asTup7, asTup8, asTup9, asAgg2, asAgg3, asAgg4, asAgg5, asAgg6, asAgg7, asAgg8, asAgg9, asAgg12, getD0, getD1, getD2, getD3, getD4, getD5, getD6, getD7, getD8, getD9, getD10, getD11, getD12, getD13, getD14, getD15, getD16, getD17, getD18, getD19, Bool.not_true, Bool.not_false, Bool.false_eq_true, Bool.true_eq_false, ↓reduceIte, decide_true, decide_false, Option.isNone_some, Option.isNone_none, Option.isSome_some, Option.isSome_none, beq_self_eq_true, bne_self_eq_false, Bool.and_true, Bool.true_and, Bool.and_false, Bool.false_and, not_true_eq_false, not_false_eq_true]
  rfl
end
end Go.Proofs.Ytcakijeoeankfaa
