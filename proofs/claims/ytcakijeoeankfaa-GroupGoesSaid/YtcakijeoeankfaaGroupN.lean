/-
  GroupN: lemmas on what Go functions of this seat come to (for whatever arguments, as each says). No condition but those that stand in each lemma.
-/
import Derived.Test.YtcakijeoeankfaaGroupM
import Derived.Test.YtcakijeoeankfaaGroupE
import Derived.Test.YtcakijeoeankfaaGroupK
namespace Go.Proofs.Ytcakijeoeankfaa
open Go Go.Ev
set_option maxRecDepth 100000
set_option linter.unusedVariables false
set_option linter.unusedSimpArgs false

def isort (l : List Int) : List Int := l.mergeSort
theorem isort_of {l l' : List Int} (h : l'.Perm l) (hs : l'.Pairwise (· ≤ ·)) : l' = isort l := by
  have h1 : (isort l).Pairwise (· ≤ ·) := by
    have := List.pairwise_mergeSort (le := fun a b : Int => decide (a ≤ b)) (by intro a b c; simp; omega) (by intro a b; simp; omega) l
    unfold isort
    exact this.imp (by intro a b; simp)
  exact List.Perm.eq_of_pairwise (by intro a b _ _ h1 h2; omega) hs h1 (h.trans (List.mergeSort_perm l _).symm)
theorem isort_perm (l : List Int) : (isort l).Perm l := List.mergeSort_perm l _
theorem isort_up (l : List Int) : (isort l).Pairwise (· ≤ ·) := by
  have := List.pairwise_mergeSort (le := fun a b : Int => decide (a ≤ b)) (by intro a b c; simp; omega) (by intro a b; simp; omega) l
  unfold isort
  exact this.imp (by intro a b; simp)

def joinG (t : TV) (n m : Int) (stay : Bool) : GV × Bool × Int :=
  if decide (m ∈ t.mem) = stay then (gv0, false, 0)
  else if stay = true then (if t.mem.length = 8 then (gv0, false, 3) else (⟨1, n, IntKind.i64.wrap (t.gen + 1), isort (t.mem ++ [m]), 0, 0⟩, true, 0))
  else (⟨1, n, IntKind.i64.wrap (t.gen + 1), without t.mem m, 0, 0⟩, true, 0)

section
variable {w : World} {D : Nat → Prop} {b : Nat} {T : List (Int × TV)} {ps : List (Int × Value)}

theorem join25 (h : St w D b T ps) {n m : Int} (hn : 0 ≤ n ∧ n < 8) (hm : 0 ≤ m) (stay : Bool) (hl : (teamG T n).mem.length ≤ 8) :
    ∃ q w', callF Try.prog 25 #[.pointer (some ⟨b, 0, none⟩), .int .i64 n, .int .i64 m, .bool stay] w = some (.tuple #[(joinG (teamG T n) n m stay).1.arg q, .bool (joinG (teamG T n) n m stay).2.1, .int .i64 (joinG (teamG T n) n m stay).2.2], w') ∧
      Own w' 3 1 q (intsV' (joinG (teamG T n) n m stay).1.mem) ∧ Fr [] w w' ∧ ∀ y ∈ blkOf q, w.heap.size ≤ y := by
  have hml : maxLen = 9223372036854775807 := by decide
  have f4 : Fr [] w (w.alloc (.cells #[.int .i64 m] 3)) := Fr.alloc _
  have b4 : Blk (w.alloc (.cells #[.int .i64 m] 3)) w.heap.size [.int .i64 m] 3 := Blk.new w [.int .i64 m] 3
  obtain ⟨w4, hw4⟩ : ∃ w4, w.alloc (.cells #[.int .i64 m] 3) = w4 := ⟨_, rfl⟩
  rw [hw4] at f4 b4
  obtain ⟨b5, f5⟩ := zero27 w4
  obtain ⟨w5, hw5⟩ : ∃ w5, w4.alloc (.cells #[.int .i64 0, .int .i64 0, .int .i64 0, .slice none 0 0, .int .i64 0, .int .i64 0] 27) = w5 := ⟨_, rfl⟩
  rw [hw5] at f5 b5
  have F5 : Fr [] w w5 := (Fr.mono (Fr.app f4 f5) (by have z0_ := Fr.size f4; have z1_ := Fr.size f5; intro y_ hy_ hl_; grind [blkOf]))
  have h5 := h.fr F5 (by simp)
  have b45 := b4.fr f5 (by simp)
  have c2 : w5.cell? ⟨w.heap.size, 0, none⟩ = some (.int .i64 m) := b45.cell 0
  obtain ⟨q6, w6, e6, o6, f6, n6, _⟩ := team23 h5 n
  have b46 := b45.fr f6 (by simp)
  have b56 := b5.fr f6 (by simp)
  have c6 : w6.cell? ⟨w.heap.size, 0, none⟩ = some (.int .i64 m) := b46.cell 0
  have e7 := contains32 o6.slC (by omega) m
  have F6 : Fr [] w w6 := (Fr.mono (Fr.app F5 f6) (by have z0_ := Fr.size F5; have z1_ := Fr.size f6; intro y_ hy_ hl_; grind [blkOf]))
  have z4 := f4.size
  have z5 := f5.size
  have z6 := f6.size
  have lb4 := b4.lt
  have lb5 := b5.lt
  have k1 : decide (n < 0) = false := by simp; omega
  have k2 : decide (n ≥ 8) = false := by simp; omega
  have k3 : decide (m < 0) = false := by simp; omega
  by_cases hs : decide (m ∈ (teamG T n).mem) = stay
  · have ks : (decide (m ∈ (teamG T n).mem) == stay) = true := by simp [hs]
    obtain ⟨w8, r1, r2, r3, r4⟩ := retG b56 rfl F6 (by omega) gv0 (none, 0, 0)
    simp only [gv0] at r1 r2
    refine ⟨(none, 0, 0), w8, g25_call ?_, ?_, r3, by simp [blkOf]⟩
    · unfold joinG
      rw [if_pos hs]
      unfold g25
      simp only [hw4, hw5, k1, k2, c2, k3, e6, c6, e7, ks, r1, r2, obs, asP_pointer, asB_bool, asI_int, asS_string, asSl_slice, asM_map, asTup0, asTup1, asTup2, asTup3, asTup4, asTup5, asTup6, asTup7, asTup8, asTup9, asAgg2, asAgg3, asAgg4, asAgg5, asAgg6, asAgg7, asAgg8, asAgg9, asAgg12, getD0, getD1, getD2, getD3, getD4, getD5, getD6, getD7, getD8, getD9, getD10, getD11, getD12, getD13, getD14, getD15, getD16, getD17, getD18, getD19, Bool.not_true, Bool.not_false, Bool.false_eq_true, Bool.true_eq_false, ↓reduceIte, decide_true, decide_false, Option.isNone_some, Option.isNone_none, Option.isSome_some, Option.isSome_none, beq_self_eq_true, bne_self_eq_false, Bool.and_true, Bool.true_and, Bool.and_false, Bool.false_and, not_true_eq_false, not_false_eq_true]
      rfl
    · unfold joinG
      rw [if_pos hs]; exact Own.nil _ _ _
  · have ks : (decide (m ∈ (teamG T n).mem) == stay) = false := by
      cases hh : decide (m ∈ (teamG T n).mem) <;> cases stay <;> simp_all
    have hq6 : q6.2.1 = (teamG T n).mem.length := by have := o6.len; simp at this; omega
    unfold joinG
    rw [if_neg hs]
    cases stay with
    | true =>
      rw [if_pos rfl]
      by_cases h8 : (teamG T n).mem.length = 8
      · have k8 : ((q6.2.1 : Int) == 8) = true := by rw [hq6, h8]; rfl
        obtain ⟨w8, r1, r2, r3, r4⟩ := retG b56 rfl F6 (by omega) gv0 (none, 0, 0)
        simp only [gv0] at r1 r2
        rw [if_pos h8]
        refine ⟨(none, 0, 0), w8, g25_call ?_, Own.nil _ _ _, r3, by simp [blkOf]⟩
        unfold g25
        simp only [hw4, hw5, k1, k2, c2, k3, e6, c6, e7, ks, k8, r1, r2, obs, asP_pointer, asB_bool, asI_int, asS_string, asSl_slice, asM_map, asTup0, asTup1, asTup2, asTup3, asTup4, asTup5, asTup6, asTup7, asTup8, asTup9, asAgg2, asAgg3, asAgg4, asAgg5, asAgg6, asAgg7, asAgg8, asAgg9, asAgg12, getD0, getD1, getD2, getD3, getD4, getD5, getD6, getD7, getD8, getD9, getD10, getD11, getD12, getD13, getD14, getD15, getD16, getD17, getD18, getD19, Bool.not_true, Bool.not_false, Bool.false_eq_true, Bool.true_eq_false, ↓reduceIte, decide_true, decide_false, Option.isNone_some, Option.isNone_none, Option.isSome_some, Option.isSome_none, beq_self_eq_true, bne_self_eq_false, Bool.and_true, Bool.true_and, Bool.and_false, Bool.false_and, not_true_eq_false, not_false_eq_true]
        rfl
      · have k8 : ((q6.2.1 : Int) == 8) = false := by simp; omega
        rw [if_neg h8]
        obtain ⟨q7, w7, e8, o7, f7, n7, l7⟩ := app_one t28 (w := w6) o6 (ys := [.int .i64 m]) rfl (by intro y hy; simp at hy; subst hy; rfl) (by omega) (by omega) 22 #[false, false]
        have o7' : Own w7 3 1 q7 (intsV ((teamG T n).mem ++ [m])) := by simpa [intsV] using o7
        obtain ⟨l', w8, e9, o8, f8, pm, up⟩ := sort33s o7' (by simp; omega)
        obtain rfl := isort_of pm up
        have nq : ∀ y ∈ blkOf q7, w5.heap.size ≤ y := fun y hy => by
          rcases n7 y hy with hh | hh
          · exact n6 y hh
          · omega
        have F7 : Fr [] w5 w7 := (f6.app f7).mono (by intro y hy hl; simp at hy; have := n6 y hy; omega)
        have F8 : Fr [] w5 w8 := (F7.app f8).mono (by intro y hy hl; simp at hy; have := nq y hy; omega)
        have b58 := b5.fr F8 (by simp)
        have FW : Fr [] w w8 := (Fr.mono (Fr.app F5 F8) (by have z0_ := Fr.size F5; have z1_ := Fr.size F8; intro y_ hy_ hl_; grind [blkOf]))
        obtain ⟨w9, r1, r2, r3, r4⟩ := retG b58 rfl FW (by omega) ⟨1, n, IntKind.i64.wrap ((teamG T n).gen + 1), isort ((teamG T n).mem ++ [m]), 0, 0⟩ q7
        refine ⟨q7, w9, g25_call ?_, o8.fr r4 (fun y hy hm => by simp at hm; have := nq y hy; omega), r3, fun y hy => by have := nq y hy; omega⟩
        unfold g25
        simp only [hw4, hw5, k1, k2, c2, k3, e6, c6, e7, ks, k8, e8, e9, g25_j51, r1, r2, obs, asP_pointer, asB_bool, asI_int, asS_string, asSl_slice, asM_map, asTup0, asTup1, asTup2, asTup3, asTup4, asTup5, asTup6, asTup7, asTup8, asTup9, asAgg2, asAgg3, asAgg4, asAgg5, asAgg6, asAgg7, asAgg8, asAgg9, asAgg12, getD0, getD1, getD2, getD3, getD4, getD5, getD6, getD7, getD8, getD9, getD10, getD11, getD12, getD13, getD14, getD15, getD16, getD17, getD18, getD19, Bool.not_true, Bool.not_false, Bool.false_eq_true, Bool.true_eq_false, ↓reduceIte, decide_true, decide_false, Option.isNone_some, Option.isNone_none, Option.isSome_some, Option.isSome_none, beq_self_eq_true, bne_self_eq_false, Bool.and_true, Bool.true_and, Bool.and_false, Bool.false_and, not_true_eq_false, not_false_eq_true]
        rfl
    | false =>
      rw [if_neg (by simp)]
      obtain ⟨v, w7, e8, o7, f7, n7⟩ := delete47 (a := ⟨w.heap.size, 0, none⟩) (m := m) o6 (by omega) c6 (fun hy => by have := n6 _ hy; simp at this; omega)
      have nq : ∀ y ∈ blkOf v, w5.heap.size ≤ y := fun y hy => n6 y (n7 y hy)
      have F7 : Fr [] w5 w7 := (f6.app f7).mono (by intro y hy hl; simp at hy; have := n6 y hy; omega)
      have b57 := b5.fr F7 (by simp)
      have FW : Fr [] w w7 := (Fr.mono (Fr.app F5 F7) (by have z0_ := Fr.size F5; have z1_ := Fr.size F7; intro y_ hy_ hl_; grind [blkOf]))
      obtain ⟨w9, r1, r2, r3, r4⟩ := retG b57 rfl FW (by omega) ⟨1, n, IntKind.i64.wrap ((teamG T n).gen + 1), without (teamG T n).mem m, 0, 0⟩ v
      refine ⟨v, w9, g25_call ?_, o7.fr r4 (fun y hy hm => by simp at hm; have := nq y hy; omega), r3, fun y hy => by have := nq y hy; omega⟩
      unfold g25
      simp only [hw4, hw5, k1, k2, c2, k3, e6, c6, e7, ks, e8, g25_j51, r1, r2, obs, asP_pointer, asB_bool, asI_int, asS_string, asSl_slice, asM_map, asTup0, asTup1, asTup2, asTup3, asTup4, asTup5, asTup6, asTup7, asTup8, asTup9, asAgg2, asAgg3, asAgg4, asAgg5, asAgg6, asAgg7, asAgg8, asAgg9, asAgg12, getD0, getD1, getD2, getD3, getD4, getD5, getD6, getD7, getD8, getD9, getD10, getD11, getD12, getD13, getD14, getD15, getD16, getD17, getD18, getD19, Bool.not_true, Bool.not_false, Bool.false_eq_true, Bool.true_eq_false, ↓reduceIte, decide_true, decide_false, Option.isNone_some, Option.isNone_none, Option.isSome_some, Option.isSome_none, beq_self_eq_true, bne_self_eq_false, Bool.and_true, Bool.true_and, Bool.and_false, Bool.false_and, not_true_eq_false, not_false_eq_true]
      rfl

/-- the member to which a partition falls -/
def ownerL (l : List Int) (k : Nat) : Int := if l.length = 0 then -1 else l.getD (k % l.length) 0

theorem commit26 (h : St w D b T ps) {n m g o : Int} {p : Nat} (hn : 0 ≤ n ∧ n < 8) (hp : p < 4) (ho : 0 ≤ o ∧ o ≤ 9223372036854775807) :
    ∃ r w', callF Try.prog 26 #[.pointer (some ⟨b, 0, none⟩), .int .i64 n, .int .i64 m, .int .i64 g, .int .i64 (p : Int), .int .i64 o] w = some (.tuple #[GV.arg r (none, 0, 0), .int .i64 (if g = (teamG T n).gen ∧ m ∈ (teamG T n).mem ∧ ownerL (teamG T n).mem p = m then 0 else 15)], w') ∧ Fr [] w w' := by
  obtain ⟨b1, f1⟩ := zero27 w
  obtain ⟨w1, hw1⟩ : ∃ w1, w.alloc (.cells #[.int .i64 0, .int .i64 0, .int .i64 0, .slice none 0 0, .int .i64 0, .int .i64 0] 27) = w1 := ⟨_, rfl⟩
  rw [hw1] at b1 f1
  let r : GV := ⟨2, n, 0, [], p, o⟩
  have hbad : ¬ badG r := by
    unfold badG
    simp only [r, riseB, List.length_nil]
    simp; omega
  obtain ⟨w2, s2, b2, f2, l2⟩ := newG w1 r (none, 0, 0)
  simp only [r] at s2 l2
  obtain ⟨w3, e3, f3⟩ := bad34 w2 r (q := (none, 0, 0)) ⟨rfl, fun hh => absurd hh (by simp)⟩ (by simp [r])
  have kb : decide (badG r) = false := by simp [hbad]
  rw [kb] at e3
  simp only [GV.arg, r] at e3
  have F12 : Fr [] w w2 := (Fr.mono (Fr.app f1 f2) (by have z0_ := Fr.size f1; have z1_ := Fr.size f2; intro y_ hy_ hl_; grind [blkOf]))
  have F3 : Fr [] w w3 := (Fr.mono (Fr.app F12 f3) (by have z0_ := Fr.size F12; have z1_ := Fr.size f3; intro y_ hy_ hl_; grind [blkOf]))
  have h3 := h.fr F3 (by simp)
  obtain ⟨q4, w4, e4, o4, f4, n4, hlen⟩ := team23 h3 n
  have e5 := contains32 o4.slC (by omega) m
  have e6 := owner10 (l := (teamG T n).mem) o4.slC p
  have F4 : Fr [] w w4 := (Fr.mono (Fr.app F3 f4) (by have z0_ := Fr.size F3; have z1_ := Fr.size f4; intro y_ hy_ hl_; grind [blkOf]))
  have b14 := ((b1.fr f2 (by simp)).fr f3 (by simp)).fr f4 (by simp)
  have b24 := (b2.fr f3 (by simp)).fr f4 (by simp)
  obtain ⟨w5, r1, r2, r3, r4⟩ := retG b14 rfl F4 (Nat.le_refl _) gv0 (none, 0, 0)
  simp only [gv0] at r1 r2
  have ld := b24.ldN (n := 6) rfl
  simp only [GV.cs, r] at ld
  obtain ⟨w6, t1, t2, t3, t4⟩ := retG b14 rfl F4 (Nat.le_refl _) r (none, 0, 0)
  simp only [r] at t1 t2
  by_cases hg : g = (teamG T n).gen
  · have kg : (g != (teamG T n).gen) = false := by simp [hg]
    by_cases hmm : m ∈ (teamG T n).mem
    · have km : decide (m ∈ (teamG T n).mem) = true := by simp [hmm]
      by_cases hw : ownerL (teamG T n).mem p = m
      · have ko : ((if (teamG T n).mem.length = 0 then -1 else (teamG T n).mem.getD (p % (teamG T n).mem.length) 0) != m) = false := by unfold ownerL at hw; rw [hw]; simp
        refine ⟨r, w6, g26_call ?_, t3⟩
        rw [if_pos ⟨hg, hmm, hw⟩]
        unfold g26
        simp only [hw1, s2, l2, e3, e4, kg, e5, km, e6, ko, ld, t1, t2, obs, asP_pointer, asB_bool, asI_int, asS_string, asSl_slice, asM_map, asTup0, asTup1, asTup2, asTup3, asTup4, asTup5, asTup6, asTup7, asTup8, asTup9, asAgg2, asAgg3, asAgg4, asAgg5, asAgg6, asAgg7, asAgg8, asAgg9, asAgg12, getD0, getD1, getD2, getD3, getD4, getD5, getD6, getD7, getD8, getD9, getD10, getD11, getD12, getD13, getD14, getD15, getD16, getD17, getD18, getD19, Bool.not_true, Bool.not_false, Bool.false_eq_true, Bool.true_eq_false, ↓reduceIte, decide_true, decide_false, Option.isNone_some, Option.isNone_none, Option.isSome_some, Option.isSome_none, beq_self_eq_true, bne_self_eq_false, Bool.and_true, Bool.true_and, Bool.and_false, Bool.false_and, not_true_eq_false, not_false_eq_true]
        rfl
      · have ko : ((if (teamG T n).mem.length = 0 then -1 else (teamG T n).mem.getD (p % (teamG T n).mem.length) 0) != m) = true := by unfold ownerL at hw; simp only [bne_iff_ne]; exact hw
        refine ⟨gv0, w5, g26_call ?_, r3⟩
        rw [if_neg (fun hh => hw hh.2.2)]
        unfold g26
        simp only [hw1, s2, l2, e3, e4, kg, e5, km, e6, ko, r1, r2, obs, asP_pointer, asB_bool, asI_int, asS_string, asSl_slice, asM_map, asTup0, asTup1, asTup2, asTup3, asTup4, asTup5, asTup6, asTup7, asTup8, asTup9, asAgg2, asAgg3, asAgg4, asAgg5, asAgg6, asAgg7, asAgg8, asAgg9, asAgg12, getD0, getD1, getD2, getD3, getD4, getD5, getD6, getD7, getD8, getD9, getD10, getD11, getD12, getD13, getD14, getD15, getD16, getD17, getD18, getD19, Bool.not_true, Bool.not_false, Bool.false_eq_true, Bool.true_eq_false, ↓reduceIte, decide_true, decide_false, Option.isNone_some, Option.isNone_none, Option.isSome_some, Option.isSome_none, beq_self_eq_true, bne_self_eq_false, Bool.and_true, Bool.true_and, Bool.and_false, Bool.false_and, not_true_eq_false, not_false_eq_true]
        rfl
    · have km : decide (m ∈ (teamG T n).mem) = false := by simp [hmm]
      refine ⟨gv0, w5, g26_call ?_, r3⟩
      rw [if_neg (fun hh => hmm hh.2.1)]
      unfold g26
      simp only [hw1, s2, l2, e3, e4, kg, e5, km, r1, r2, obs, asP_pointer, asB_bool, asI_int, asS_string, asSl_slice, asM_map, asTup0, asTup1, asTup2, asTup3, asTup4, asTup5, asTup6, asTup7, asTup8, asTup9, asAgg2, asAgg3, asAgg4, asAgg5, asAgg6, asAgg7, asAgg8, asAgg9, asAgg12, getD0, getD1, getD2, getD3, getD4, getD5, getD6, getD7, getD8, getD9, getD10, getD11, getD12, getD13, getD14, getD15, getD16, getD17, getD18, getD19, Bool.not_true, Bool.not_false, Bool.false_eq_true, Bool.true_eq_false, ↓reduceIte, decide_true, decide_false, Option.isNone_some, Option.isNone_none, Option.isSome_some, Option.isSome_none, beq_self_eq_true, bne_self_eq_false, Bool.and_true, Bool.true_and, Bool.and_false, Bool.false_and, not_true_eq_false, not_false_eq_true]
      rfl
  · have kg : (g != (teamG T n).gen) = true := by simp [hg]
    refine ⟨gv0, w5, g26_call ?_, r3⟩
    rw [if_neg (fun hh => hg hh.1)]
    unfold g26
    simp only [hw1, s2, l2, e3, e4, kg, r1, r2, obs, asP_pointer, asB_bool, asI_int, asS_string, asSl_slice, asM_map, asTup0, asTup1, asTup2, asTup3, asTup4, asTup5, asTup6, asTup7, asTup8, asTup9, asAgg2, asAgg3, asAgg4, asAgg5, asAgg6, asAgg7, asAgg8, asAgg9, asAgg12, getD0, getD1, getD2, getD3, getD4, getD5, getD6, getD7, getD8, getD9, getD10, getD11, getD12, getD13, getD14, getD15, getD16, getD17, getD18, getD19, Bool.not_true, Bool.not_false, Bool.false_eq_true, Bool.true_eq_false, ↓reduceIte, decide_true, decide_false, Option.isNone_some, Option.isNone_none, Option.isSome_some, Option.isSome_none, beq_self_eq_true, bne_self_eq_false, Bool.and_true, Bool.true_and, Bool.and_false, Bool.false_and, not_true_eq_false, not_false_eq_true]
    rfl
end
end Go.Proofs.Ytcakijeoeankfaa
