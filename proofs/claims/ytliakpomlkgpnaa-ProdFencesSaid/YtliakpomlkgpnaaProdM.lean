/-
  ProdM: lemmas on what Go functions of this seat come to (for whatever arguments, as each says). No condition but those that stand in each lemma.
-/
import Derived.Test.YtliakpomlkgpnaaProdN
namespace Go.Proofs.Ytliakpomlkgpnaa
open Go Go.Ev
set_option maxRecDepth 100000
set_option linter.unusedVariables false
set_option linter.unusedSimpArgs false

def bA (q : Option Addr × Nat × Nat) (seq : Int) : BV := ⟨4, 0, 7, 0, seq, false, false, false, q, [[], []]⟩

theorem awake8 (w : World) : ∃ w', callF Try.prog 8 #[] w = some (.bool true, w') ∧ Fr [] w w' := by
  obtain ⟨w1, D1, e1, t1, f1, n1⟩ := new17 w
  have fa : Fr [] w1 (w1.alloc (.cells #[.slice none 0 0, .slice none 0 0] 61)) := Fr.alloc _
  have ba := Blk.new w1 [.slice none 0 0, .slice none 0 0] 61
  change Blk (w1.alloc (.cells #[.slice none 0 0, .slice none 0 0] 61)) _ _ _ at ba
  obtain ⟨wa, hwa⟩ : ∃ wa, w1.alloc (.cells #[.slice none 0 0, .slice none 0 0] 61) = wa := ⟨_, rfl⟩
  rw [hwa] at fa ba
  obtain ⟨q, hq⟩ : ∃ q : Option Addr × Nat × Nat, q = (some ⟨w1.heap.size, 0, none⟩, 2, 2) := ⟨_, rfl⟩
  have hok : ∀ x : World, Blk x w1.heap.size [.slice none 0 0, .slice none 0 0] 61 → ∀ s, BOk x (bA q s) := by
    intro x ba s
    refine ⟨⟨fun y => y = w1.heap.size, ⟨[(none, 0, 0), (none, 0, 0)], ⟨by simp [hq, bA], fun _ => ⟨w1.heap.size, 0, by simp [hq, bA], ba.lt, fun i hi => ?_⟩⟩, rfl, ?_, ?_⟩, fun y hy => hy ▸ ba.lt⟩, by show (2 : Nat) ≤ _; decide, by show (_ ∧ _) ∧ _; simp [bA]⟩
    · have hi2 : i < 2 := by simpa using hi
      have := ba.cell i
      rw [Nat.zero_add, this]
      match i, hi2 with
      | 0, _ => rfl
      | 1, _ => rfl
    · intro _ y hy; simpa [hq, bA, blkOf] using hy
    · intro i hi hi'
      have hi2 : i < 2 := by simpa [bA] using hi
      match i, hi2 with
      | 0, _ => exact ⟨⟨rfl, fun h => absurd h (by simp)⟩, by simp, fun h => absurd h (by simp [bA])⟩
      | 1, _ => exact ⟨⟨rfl, fun h => absurd h (by simp)⟩, by simp, fun h => absurd h (by simp [bA])⟩
  have e3 : stL (wa.alloc (.cells #[.int .i64 0, .int .i64 0, .int .u64 0, .int .i64 0, .int .i64 0, .bool false, .bool false, .bool false, .slice none 0 0] 30)) ⟨wa.heap.size, 0, none⟩ (bA q 0).cs 0 = some (wa.alloc (.cells (bA q 0).cs.toArray 30)) := stL_new rfl (by simp [BV.cs, bA])
  have fb : Fr [] wa (wa.alloc (.cells (bA q 0).cs.toArray 30)) := Fr.alloc _
  have bb := Blk.new wa (bA q 0).cs 30
  obtain ⟨v, hv⟩ : ∃ v, wa.alloc (.cells (bA q 0).cs.toArray 30) = v := ⟨_, rfl⟩
  rw [hv] at e3 fb bb
  obtain ⟨g, hg⟩ : ∃ g, wa.heap.size = g := ⟨_, rfl⟩
  rw [hg] at e3 bb
  have za := fa.size
  have zw := f1.size
  have F1 : Fr [] w1 v := (Fr.mono (Fr.app fa fb) (by have z0_ := Fr.size fa; have z1_ := Fr.size fb; intro y_ hy_ hl_; grind [blkOf]))
  have Fw : Fr [] w v := (Fr.mono (Fr.app f1 F1) (by have z0_ := Fr.size f1; have z1_ := Fr.size F1; intro y_ hy_ hl_; grind [blkOf]))
  have t3 := t1.fr F1 (by simp)
  have lt1 := t1.lt
  obtain ⟨w4, D4, e4, t4, c4⟩ := apply14 t3 (hok v (ba.fr fb (by simp)) 0) (by simp) (by simp)
  have hw2 : IntKind.i64.wrap 2 = 2 := by decide +kernel
  have ea : apA [] [] (bA q 0) = ([(7, (0, 2, [(0, 2, 4)], -1))], []) := by
    simp [apA, kups, kget_nil, stepV, oldV, stepB, bA, BV.sz, cut5, hw2]
  rw [ea] at t4
  have hA : ∀ v : PV, kget [((7 : Int), ((0, 2, [(0, 2, 4)], -1) : PV))] 7 = some v → v.2.2.1.length < 9223372036854775807 := by
    intro v hv
    rw [kget_cons, if_pos rfl] at hv
    cases hv
    decide
  obtain ⟨S4, f4, hS4⟩ := c4.fr
  have ng : g ∉ S4 := fun hm => by have := lt1 g (hS4 g hm); omega
  have b4 := bb.fr f4 ng
  have n4 := c4.new
  have F4 : Fr [] w w4 := (Fw.app f4).mono (by intro y hy hl; simp at hy; have := n1 y (hS4 y hy); omega)
  have na : w1.heap.size ∉ S4 := fun hm => by have := lt1 _ (hS4 _ hm); omega
  have ltb := ba.lt
  have nag : w1.heap.size ≠ g := by omega
  have ba4 := (ba.fr fb (by simp)).fr f4 na
  obtain ⟨w5, e5, f5⟩ := check11 t4 (hok w4 ba4 0) hA
  have k5 : chkA [((7 : Int), ((0, 2, [(0, 2, 4)], -1) : PV))] (bA q 0) = (4, true, 0) := by
    have : chkB (bA q 0) = 0 := by simp [chkB, formB, bA, longV]
    unfold chkA; rw [this]; simp [kget_cons, bA, isB, BV.sz]
  rw [k5] at e5
  have b5 := b4.fr f5 (by simp)
  have s5 : st1 w5 ⟨g, 4, none⟩ (.int .i64 2) = some (w5.setCell ⟨g, 4, none⟩ (.int .i64 2)) := b5.st1 (by simp [BV.cs]) rfl
  have f6 : Fr [g] w5 (w5.setCell ⟨g, 4, none⟩ (.int .i64 2)) := Fr.setCell
  have b6 := b5.set 4 (.int .i64 2)
  obtain ⟨w6, hw6⟩ : ∃ w6, w5.setCell ⟨g, 4, none⟩ (.int .i64 2) = w6 := ⟨_, rfl⟩
  rw [hw6] at s5 f6 b6
  have b6' : Blk w6 g (bA q 2).cs 30 := b6
  have gD : ¬ D4 g := fun hd => by
    rcases n4 g hd with hh | hh
    · have := lt1 g hh; omega
    · have := bb.lt; omega
  have t6 := (t4.fr f5 (by simp)).fr f6 (by intro y hy _; simp at hy; subst hy; exact gD)
  have ba6 := (ba4.fr f5 (by simp)).fr f6 (by simpa using nag)
  obtain ⟨w7, e7, f7⟩ := check11 t6 (hok w6 ba6 2) hA
  have k7 : chkA [((7 : Int), ((0, 2, [(0, 2, 4)], -1) : PV))] (bA q 2) = (0, false, 0) := by
    have : chkB (bA q 2) = 0 := by simp [chkB, formB, bA, longV]
    unfold chkA; rw [this]; simp [kget_cons, bA, isB, BV.sz]
  rw [k7] at e7
  have b7 := b6'.fr f7 (by simp)
  have s7 : st1 w7 ⟨g, 4, none⟩ (.int .i64 5) = some (w7.setCell ⟨g, 4, none⟩ (.int .i64 5)) := b7.st1 (by simp [BV.cs]) rfl
  have f8 : Fr [g] w7 (w7.setCell ⟨g, 4, none⟩ (.int .i64 5)) := Fr.setCell
  have b8 := b7.set 4 (.int .i64 5)
  obtain ⟨w8, hw8⟩ : ∃ w8, w7.setCell ⟨g, 4, none⟩ (.int .i64 5) = w8 := ⟨_, rfl⟩
  rw [hw8] at s7 f8 b8
  have b8' : Blk w8 g (bA q 5).cs 30 := b8
  have t8 := (t6.fr f7 (by simp)).fr f8 (by intro y hy _; simp at hy; subst hy; exact gD)
  have ba8 := (ba6.fr f7 (by simp)).fr f8 (by simpa using nag)
  obtain ⟨w9, e9, f9⟩ := check11 t8 (hok w8 ba8 5) hA
  have k9 : chkA [((7 : Int), ((0, 2, [(0, 2, 4)], -1) : PV))] (bA q 5) = (0, false, 11) := by
    have : chkB (bA q 5) = 0 := by simp [chkB, formB, bA, longV]
    unfold chkA; rw [this]; simp [kget_cons, bA, isB, BV.sz]
  rw [k9] at e9
  have G0 : ∀ a b c d e f g h i : Value, [a, b, c, d, e, f, g, h, i].getD 0 undef = a := fun _ _ _ _ _ _ _ _ _ => rfl
  have G1 : ∀ a b c d e f g h i : Value, [a, b, c, d, e, f, g, h, i].getD 1 undef = b := fun _ _ _ _ _ _ _ _ _ => rfl
  have G2 : ∀ a b c d e f g h i : Value, [a, b, c, d, e, f, g, h, i].getD 2 undef = c := fun _ _ _ _ _ _ _ _ _ => rfl
  have G3 : ∀ a b c d e f g h i : Value, [a, b, c, d, e, f, g, h, i].getD 3 undef = d := fun _ _ _ _ _ _ _ _ _ => rfl
  have G4 : ∀ a b c d e f g h i : Value, [a, b, c, d, e, f, g, h, i].getD 4 undef = e := fun _ _ _ _ _ _ _ _ _ => rfl
  have G5 : ∀ a b c d e f g h i : Value, [a, b, c, d, e, f, g, h, i].getD 5 undef = f := fun _ _ _ _ _ _ _ _ _ => rfl
  have G6 : ∀ a b c d e f g h i : Value, [a, b, c, d, e, f, g, h, i].getD 6 undef = g := fun _ _ _ _ _ _ _ _ _ => rfl
  have G7 : ∀ a b c d e f g h i : Value, [a, b, c, d, e, f, g, h, i].getD 7 undef = h := fun _ _ _ _ _ _ _ _ _ => rfl
  have G8 : ∀ a b c d e f g h i : Value, [a, b, c, d, e, f, g, h, i].getD 8 undef = i := fun _ _ _ _ _ _ _ _ _ => rfl
  have l3 : ldN v ⟨g, 0, none⟩ 0 9 = some (bA q 0).cs := blk_ldN bb (n := 9) (by simp [BV.cs])
  have l4 : ldN w4 ⟨g, 0, none⟩ 0 9 = some (bA q 0).cs := blk_ldN b4 (n := 9) (by simp [BV.cs])
  have l6 : ldN w6 ⟨g, 0, none⟩ 0 9 = some (bA q 2).cs := blk_ldN b6' (n := 9) (by simp [BV.cs])
  have l8 : ldN w8 ⟨g, 0, none⟩ 0 9 = some (bA q 5).cs := blk_ldN b8' (n := 9) (by simp [BV.cs])
  have x0 : (bA q 0).cs = [.int .i64 4, .int .i64 0, .int .u64 7, .int .i64 0, .int .i64 0, .bool false, .bool false, .bool false, .slice q.1 q.2.1 q.2.2] := rfl
  have x2 : (bA q 2).cs = [.int .i64 4, .int .i64 0, .int .u64 7, .int .i64 0, .int .i64 2, .bool false, .bool false, .bool false, .slice q.1 q.2.1 q.2.2] := rfl
  have x5 : (bA q 5).cs = [.int .i64 4, .int .i64 0, .int .u64 7, .int .i64 0, .int .i64 5, .bool false, .bool false, .bool false, .slice q.1 q.2.1 q.2.2] := rfl
  rw [x0] at l3 l4
  rw [x2] at l6
  rw [x5] at l8
  have hgw : w.heap.size ≤ g := by omega
  refine ⟨w9, g8_call ?_, ?_⟩
  · have e3' : stL (wa.alloc (.cells #[.int .i64 0, .int .i64 0, .int .u64 0, .int .i64 0, .int .i64 0, .bool false, .bool false, .bool false, .slice none 0 0] 30)) ⟨g, 0, none⟩ [.int .i64 4, .int .i64 0, .int .u64 7, .int .i64 0, .int .i64 0, .bool false, .bool false, .bool false, .slice (some ⟨w1.heap.size, 0, none⟩) 2 2] 0 = some v := by
      rw [← e3, x0, hq]
    have e4' : callF Try.prog 14 #[.pointer (some ⟨w.heap.size + 1, 0, none⟩), .agg #[.int .i64 4, .int .i64 0, .int .u64 7, .int .i64 0, .int .i64 0, .bool false, .bool false, .bool false, .slice q.1 q.2.1 q.2.2]] v = some (.tuple #[], w4) := e4
    have e5' : callF Try.prog 11 #[.pointer (some ⟨w.heap.size + 1, 0, none⟩), .agg #[.int .i64 4, .int .i64 0, .int .u64 7, .int .i64 0, .int .i64 0, .bool false, .bool false, .bool false, .slice q.1 q.2.1 q.2.2]] w4 = some (.tuple #[.int .i64 4, .bool true, .int .i64 0], w5) := e5
    have e7' : callF Try.prog 11 #[.pointer (some ⟨w.heap.size + 1, 0, none⟩), .agg #[.int .i64 4, .int .i64 0, .int .u64 7, .int .i64 0, .int .i64 2, .bool false, .bool false, .bool false, .slice q.1 q.2.1 q.2.2]] w6 = some (.tuple #[.int .i64 0, .bool false, .int .i64 0], w7) := e7
    have e9' : callF Try.prog 11 #[.pointer (some ⟨w.heap.size + 1, 0, none⟩), .agg #[.int .i64 4, .int .i64 0, .int .u64 7, .int .i64 0, .int .i64 5, .bool false, .bool false, .bool false, .slice q.1 q.2.1 q.2.2]] w8 = some (.tuple #[.int .i64 0, .bool false, .int .i64 11], w9) := e9
    have h00 : ((0 : Int) == 0) = true := by decide
    have h44 : ((4 : Int) == 4) = true := by decide
    have h11 : ((11 : Int) == 11) = true := by decide
    unfold g8
    rw [e1]
    simp only [Option.bind_some, asP_pointer, hwa, hg]
    rw [e3', Option.bind_some]
    simp only [Option.isNone_some, Bool.false_eq_true, if_false]
    rw [l3, Option.bind_some]
    simp only [G0, G1, G2, G3, G4, G5, G6, G7, G8, asI_int, asB_bool, asSl_slice, Option.bind_some]
    rw [e4', Option.bind_some]
    simp only [asTup0, Option.bind_some]
    rw [l4, Option.bind_some]
    simp only [G0, G1, G2, G3, G4, G5, G6, G7, G8, asI_int, asB_bool, asSl_slice, Option.bind_some]
    rw [e5', Option.bind_some]
    simp only [asTup3, Option.bind_some, getD0, getD1, getD2, asI_int, asB_bool, addr_add, Nat.zero_add]
    rw [s5, Option.bind_some, l6, Option.bind_some]
    simp only [G0, G1, G2, G3, G4, G5, G6, G7, G8, asI_int, asB_bool, asSl_slice, Option.bind_some]
    rw [e7', Option.bind_some]
    simp only [asTup3, Option.bind_some, getD0, getD1, getD2, asI_int, asB_bool, addr_add, Nat.zero_add]
    rw [s7, Option.bind_some, l8, Option.bind_some]
    simp only [G0, G1, G2, G3, G4, G5, G6, G7, G8, asI_int, asB_bool, asSl_slice, Option.bind_some]
    rw [e9', Option.bind_some]
    simp only [h00, h44, h11, obs, asP_pointer, asB_bool, asI_int, asS_string, asSl_slice, asM_map, asTup0, asTup1, asTup2, asTup3, asTup4, asTup5, asTup6, asTup7, asTup8, asTup9, getD0, getD1, getD2, getD3, getD4, getD5, getD6, getD7, getD8, getD9, getD10, getD11, Bool.not_true, Bool.not_false, Bool.false_eq_true, Bool.true_eq_false, ↓reduceIte, decide_true, decide_false, Option.isNone_some, Option.isNone_none, Option.isSome_some, Option.isSome_none, beq_self_eq_true, bne_self_eq_false, Bool.and_true, Bool.true_and, Bool.and_false, Bool.false_and, not_true_eq_false, not_false_eq_true]
  · exact (Fr.mono (Fr.app (Fr.app (Fr.app (Fr.app (Fr.app F4 f5) f6) f7) f8) f9) (by have z0_ := Fr.size F4; have z1_ := Fr.size f5; have z2_ := Fr.size f6; have z3_ := Fr.size f7; have z4_ := Fr.size f8; have z5_ := Fr.size f9; intro y_ hy_ hl_; grind [blkOf]))
end Go.Proofs.Ytliakpomlkgpnaa
