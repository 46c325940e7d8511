/-
  GroupO: lemmas on what Go functions of this seat come to (for whatever arguments, as each says). No condition but those that stand in each lemma.
-/
import Derived.Test.YtcakijeoeankfaaGroupL7
import Derived.Test.YtcakijeoeankfaaGroupN
namespace Go.Proofs.Ytcakijeoeankfaa
open Go Go.Ev
set_option maxRecDepth 100000
set_option linter.unusedVariables false
set_option linter.unusedSimpArgs false

/-! ## what the law counts -/
def nowL (l : List Int) (m : Int) (stay : Bool) (k : Nat) : List Int := ((List.range k).map (fun i : Nat => (i : Int))).filter fun y => decide (y ∈ l ∧ y ≠ m ∨ y = m ∧ stay = true)
theorem nowL_zero (l : List Int) (m : Int) (stay : Bool) : nowL l m stay 0 = [] := rfl
theorem nowL_succ (l : List Int) (m : Int) (stay : Bool) (k : Nat) : nowL l m stay (k + 1) = nowL l m stay k ++ if (k : Int) ∈ l ∧ (k : Int) ≠ m ∨ (k : Int) = m ∧ stay = true then [(k : Int)] else [] := by
  unfold nowL
  rw [List.range_succ, List.map_append, List.filter_append]
  congr 1
  simp only [List.map_cons, List.map_nil, List.filter_cons, List.filter_nil, decide_eq_true_eq]
theorem nowL_mem {l : List Int} {m : Int} {stay : Bool} {k : Nat} {y : Int} : y ∈ nowL l m stay k ↔ (0 ≤ y ∧ y < k) ∧ (y ∈ l ∧ y ≠ m ∨ y = m ∧ stay = true) := by
  unfold nowL
  simp only [List.mem_filter, List.mem_map, List.mem_range, decide_eq_true_eq]
  constructor
  · rintro ⟨⟨i, hi, rfl⟩, h⟩; exact ⟨⟨by omega, by omega⟩, h⟩
  · rintro ⟨⟨h0, h1⟩, h⟩; exact ⟨⟨y.toNat, by omega, by omega⟩, h⟩
theorem nowL_up (l : List Int) (m : Int) (stay : Bool) (k : Nat) : (nowL l m stay k).Pairwise (· < ·) := by
  unfold nowL
  apply List.Pairwise.filter
  rw [List.pairwise_map]
  exact (List.pairwise_lt_range (n := k)).imp (by intro a b h; omega)
theorem nowL_len (l : List Int) (m : Int) (stay : Bool) (k : Nat) : (nowL l m stay k).length ≤ k := by
  unfold nowL
  have := List.length_filter_le (fun y => decide (y ∈ l ∧ y ≠ m ∨ y = m ∧ stay = true)) ((List.range k).map (fun i : Nat => (i : Int)))
  simpa using this
theorem lt_nodup {l : List Int} (h : l.Pairwise (· < ·)) : l.Nodup := h.imp (by intro a b h e; omega)
theorem lt_le {l : List Int} (h : l.Pairwise (· < ·)) : l.Pairwise (· ≤ ·) := h.imp (by intro a b h; omega)
theorem now_in {l : List Int} {m : Int} (hl : l.Pairwise (· < ·)) (hr : ∀ z ∈ l, 0 ≤ z ∧ z < 12) (hm : 0 ≤ m ∧ m < 12) (hn : m ∉ l) : isort (l ++ [m]) = nowL l m true 12 := by
  refine (isort_of ?_ (lt_le (nowL_up l m true 12))).symm
  rw [List.perm_ext_iff_of_nodup (lt_nodup (nowL_up _ _ _ _))]
  · intro a
    rw [nowL_mem]
    simp only [List.mem_append, List.mem_singleton]
    constructor
    · rintro ⟨_, h⟩
      rcases h with h | h
      · exact .inl h.1
      · exact .inr h.1
    · rintro (h | h)
      · have := hr a h
        exact ⟨⟨this.1, by omega⟩, .inl ⟨h, fun e => hn (e ▸ h)⟩⟩
      · subst h; exact ⟨⟨hm.1, by omega⟩, .inr ⟨rfl, trivial⟩⟩
  · rw [List.nodup_append]
    exact ⟨lt_nodup hl, by simp, fun a ha b hb e => by simp at hb; subst hb; subst e; exact hn ha⟩
theorem now_out {l : List Int} {m : Int} (hl : l.Pairwise (· < ·)) (hr : ∀ z ∈ l, 0 ≤ z ∧ z < 12) : without l m = nowL l m false 12 := by
  have hw : (without l m).Pairwise (· < ·) := hl.filter _
  refine List.Perm.eq_of_pairwise (le := (· ≤ ·)) (by intro a b _ _ h1 h2; omega) (lt_le hw) (lt_le (nowL_up l m false 12)) ?_
  rw [List.perm_ext_iff_of_nodup (lt_nodup hw) (lt_nodup (nowL_up _ _ _ _))]
  intro a
  rw [nowL_mem]
  unfold without
  simp only [List.mem_filter, Bool.not_eq_true', beq_eq_false_iff_ne, ne_eq]
  constructor
  · rintro ⟨h1, h2⟩; have := hr a h1; exact ⟨⟨this.1, by omega⟩, .inl ⟨h1, h2⟩⟩
  · rintro ⟨_, h⟩
    rcases h with h | h
    · exact h
    · simp at h

/-! ## the calls of the script -/
abbrev OT : Ty := .cons (.int .i64) (.cons (.int .i64) (.cons (.int .i64) (.cons (.int .i64) (.cons (.int .i64) (.cons (.int .i64) (.cons .bool (.cons (.int .u64) (.cons (.cons (.int .i64) (.cons (.int .i64) (.cons (.int .u64) (.cons (.int .i64) (.cons (.int .i64) (.cons .bool (.cons .bool (.cons .bool (.cons (.slice (.slice (.int .u8))) .nil))))))))) .nil))))))))
structure OV where
  a0 : Int
  a1 : Int
  a2 : Int
  a3 : Int
  a4 : Int
  a5 : Int
  a6 : Bool
  a7 : Int
  r0 : Int
  r1 : Int
  r2 : Int
  r3 : Int
  r4 : Int
  r5 : Bool
  r6 : Bool
  r7 : Bool
  r8 : Option Addr × Nat × Nat
def OV.cs (o : OV) : List Value := [.int .i64 o.a0, .int .i64 o.a1, .int .i64 o.a2, .int .i64 o.a3, .int .i64 o.a4, .int .i64 o.a5, .bool o.a6, .int .u64 o.a7, .int .i64 o.r0, .int .i64 o.r1, .int .u64 o.r2, .int .i64 o.r3, .int .i64 o.r4, .bool o.r5, .bool o.r6, .bool o.r7, .slice o.r8.1 o.r8.2.1 o.r8.2.2]
theorem ovcs_oc (o : OV) : ∀ u ∈ o.cs, u.oneCell' = true := by
  intro u hu
  simp only [OV.cs, List.mem_cons, List.not_mem_nil, or_false] at hu
  rcases hu with rfl | rfl | rfl | rfl | rfl | rfl | rfl | rfl | rfl | rfl | rfl | rfl | rfl | rfl | rfl | rfl | rfl <;> rfl
def ov0 : OV := ⟨0, 0, 0, 0, 0, 0, false, 0, 0, 0, 0, 0, 0, false, false, false, (none, 0, 0)⟩

theorem ops_at {W w : World} {x0 : (Ty.slice OT).Val} (h0 : (Ty.slice OT).At W [.slice x0.1.1 x0.1.2.1 x0.1.2.2] x0) (hF : Fr [] W w) {k : Nat} (hk : k < x0.2.length) :
    ∃ a o, idxA x0.1.1 x0.1.2.1 17 (k : Int) = some a ∧ ldN w a 0 17 = some (OV.cs o) := by
  have hold : Old W w := (Old.refl W).fr hF (by simp)
  obtain ⟨a, cs, i1, g1, g2, g3⟩ := slice_get (at_old hold _ _ _ h0) hk
  obtain ⟨y, hy⟩ : ∃ y, x0.2[k] = y := ⟨_, rfl⟩
  rw [hy] at g3
  obtain ⟨c1, d1, rfl, _, ⟨rfl, _⟩, c2, d2, rfl, _, ⟨rfl, _⟩, c3, d3, rfl, _, ⟨rfl, _⟩, c4, d4, rfl, _, ⟨rfl, _⟩, c5, d5, rfl, _, ⟨rfl, _⟩, c6, d6, rfl, _, ⟨rfl, _⟩, c7, d7, rfl, _, rfl, c8, d8, rfl, _, ⟨rfl, _⟩, c9, d9, rfl, _, ⟨e1, f1, rfl, _, ⟨rfl, _⟩, e2, f2, rfl, _, ⟨rfl, _⟩, e3, f3, rfl, _, ⟨rfl, _⟩, e4, f4, rfl, _, ⟨rfl, _⟩, e5, f5, rfl, _, ⟨rfl, _⟩, e6, f6, rfl, _, rfl, e7, f7, rfl, _, rfl, e8, f8, rfl, _, rfl, e9, f9, rfl, _, ⟨rfl, _⟩, rfl⟩, rfl⟩ := g3
  exact ⟨a, ⟨_, _, _, _, _, _, _, _, _, _, _, _, _, _, _, _, _⟩, i1, g2.ldN (n := 17) rfl⟩

theorem newOp (x : World) (o : OV) : ∃ x', stL (x.alloc (.cells #[.int .i64 0, .int .i64 0, .int .i64 0, .int .i64 0, .int .i64 0, .int .i64 0, .bool false, .int .u64 0, .int .i64 0, .int .i64 0, .int .u64 0, .int .i64 0, .int .i64 0, .bool false, .bool false, .bool false, .slice none 0 0] 62)) ⟨x.heap.size, 0, none⟩
      [.int .i64 o.a0, .int .i64 o.a1, .int .i64 o.a2, .int .i64 o.a3, .int .i64 o.a4, .int .i64 o.a5, .bool o.a6, .int .u64 o.a7, .int .i64 o.r0, .int .i64 o.r1, .int .u64 o.r2, .int .i64 o.r3, .int .i64 o.r4, .bool o.r5, .bool o.r6, .bool o.r7, .slice o.r8.1 o.r8.2.1 o.r8.2.2] 0 = some x' ∧ Blk x' x.heap.size o.cs 62 ∧ Fr [] x x' := by
  have b := Blk.new x ov0.cs 62
  have f : Fr [] x (x.alloc (.cells ov0.cs.toArray 62)) := Fr.alloc _
  obtain ⟨x', h1, h2, h3⟩ := b.stL (vs := o.cs) rfl (ovcs_oc o)
  exact ⟨x', h1, h2, (f.app h3).mono (by intro y hy hl; simp at hy; omega)⟩

/-- had: is a number among those that are in -/
theorem had49 {w : World} {s7 : Bool × Int × (Option Addr × Nat × Nat) × Int} {is : Bool} {v : Option Addr × Nat × Nat} {x : Int} {p2 : Option Addr} {w8 : World} {n30 n43 : Int} {r33 : Value × World} {b42 : Bool} {u0 : Option Addr × Nat × Nat} {l : List Int}
    (h : SlC w 1 s7.2.2.1 (intsV l)) (hn : l.length < 4611686018427387904) :
    ∃ j : Int, loopS (g7_l49_b s7 (is, v, x) p2 w8 n30 r33 b42 n43 u0) (false, 0) w = some (.exit 4, (decide (x ∈ l), j), w) := by
  have hl := h.1
  simp only [intsV, List.length_map, Nat.mul_one] at hl
  obtain ⟨t, w', g1, rfl, rfl⟩ := loopS_countX 4 (b := g7_l49_b s7 (is, v, x) p2 w8 n30 r33 b42 n43 u0) (n := l.length)
    (I := fun k s y => s = (decide (x ∈ l.take k), (k : Int)) ∧ y = w)
    (fun k s y hk ⟨hs, hy⟩ => by
      subst hs hy
      obtain ⟨a, i1, c1⟩ := h.get (i := k) (by simpa using hk)
      have c1' : y.cell? a = some (.int .i64 l[k]) := by rw [c1]; simp
      have k1 : decide ((k : Int) < (s7.2.2.1.2.1 : Int)) = true := by simp; omega
      have hw := wrap_succ (n := k) (by omega)
      refine ⟨_, y, ?_, rfl, rfl⟩
      rw [List.take_succ_eq_append_getElem hk]
      unfold g7_l49_b
      by_cases hm : x ∈ l.take k
      · have k2 : decide (x ∈ l.take k) = true := by simp [hm]
        have k3 : decide (x ∈ l.take k ++ [l[k]]) = true := by simp only [List.mem_append, hm, true_or, decide_true]
        simp only [k1, i1, c1', k2, k3, hw, obs, asP_pointer, asB_bool, asI_int, asS_string, asSl_slice, asM_map, asTup0, asTup1, asTup2, asTup3, asTup4, asTup5, asTup6, asTup7, asTup8, asTup9, asAgg2, asAgg3, asAgg4, asAgg5, asAgg6, asAgg7, asAgg8, asAgg9, asAgg12, getD0, getD1, getD2, getD3, getD4, getD5, getD6, getD7, getD8, getD9, getD10, getD11, getD12, getD13, getD14, getD15, getD16, getD17, getD18, getD19, Bool.not_true, Bool.not_false, Bool.false_eq_true, Bool.true_eq_false, ↓reduceIte, decide_true, decide_false, Option.isNone_some, Option.isNone_none, Option.isSome_some, Option.isSome_none, beq_self_eq_true, bne_self_eq_false, Bool.and_true, Bool.true_and, Bool.and_false, Bool.false_and, not_true_eq_false, not_false_eq_true]
      · have k2 : decide (x ∈ l.take k) = false := by simp [hm]
        have k3 : decide (x ∈ l.take k ++ [l[k]]) = (x == l[k]) := by rw [Bool.eq_iff_iff]; simp only [List.mem_append, List.mem_singleton, hm, false_or, decide_eq_true_eq, beq_iff_eq]
        simp only [k1, i1, c1', k2, k3, hw, obs, asP_pointer, asB_bool, asI_int, asS_string, asSl_slice, asM_map, asTup0, asTup1, asTup2, asTup3, asTup4, asTup5, asTup6, asTup7, asTup8, asTup9, asAgg2, asAgg3, asAgg4, asAgg5, asAgg6, asAgg7, asAgg8, asAgg9, asAgg12, getD0, getD1, getD2, getD3, getD4, getD5, getD6, getD7, getD8, getD9, getD10, getD11, getD12, getD13, getD14, getD15, getD16, getD17, getD18, getD19, Bool.not_true, Bool.not_false, Bool.false_eq_true, Bool.true_eq_false, ↓reduceIte, decide_true, decide_false, Option.isNone_some, Option.isNone_none, Option.isSome_some, Option.isSome_none, beq_self_eq_true, bne_self_eq_false, Bool.and_true, Bool.true_and, Bool.and_false, Bool.false_and, not_true_eq_false, not_false_eq_true])
    (fun s y ⟨hs, hy⟩ => by
      subst hs hy
      unfold g7_l49_b
      have k1 : decide ((l.length : Int) < (s7.2.2.1.2.1 : Int)) = false := by simp; omega
      simp only [k1, Bool.false_eq_true, if_false]) (k := 0) (s := (false, 0)) (w := w) (Nat.zero_le _) ⟨by simp, rfl⟩
  rw [List.take_length] at g1
  exact ⟨_, g1⟩

/-- one number more -/
theorem now_x4 {w w8 : World} {is had stay : Bool} {v : Option Addr × Nat × Nat} {k : Nat} {n30 m j : Int} {ys : List Int} (hk : k < 12) (hm : Int.tmod (IntKind.i64.wrap ((Int.tmod n30 12) + 12)) 12 = m) (ho : Own w 3 1 v (intsV ys)) (hl : ys.length ≤ 100) (hc : w.cell? ⟨w8.heap.size, 6, none⟩ = some (.bool stay)) :
    ∃ v' w', g7_l49_x4 (is, v, (k : Int)) n30 w8 (had, j) w = some (.normal, (is || (had && decide ((k : Int) = m)), v', ((k + 1 : Nat) : Int)), w') ∧
      Own w' 3 1 v' (intsV (ys ++ if had = true ∧ (k : Int) ≠ m ∨ (k : Int) = m ∧ stay = true then [(k : Int)] else [])) ∧ Fr (blkOf v) w w' ∧ ∀ y ∈ blkOf v', y ∈ blkOf v ∨ w.heap.size ≤ y := by
  have hml : maxLen = 9223372036854775807 := by decide
  have hq := ho.len
  simp only [intsV, List.length_map, Nat.mul_one] at hq
  obtain ⟨v1, w1, e1, o1, f1, n1, l1⟩ := app_one t28 (w := w) ho (ys := [.int .i64 (k : Int)]) rfl (by intro y hy; simp at hy; subst hy; rfl) (by omega) (by omega) 22 #[false, false]
  have o1' : Own w1 3 1 v1 (intsV (ys ++ [(k : Int)])) := by simpa [intsV] using o1
  have hw := wrap_succ (n := k) (by omega)
  by_cases hx : (k : Int) = m
  · have k1 : ((k : Int) != m) = false := by simp [hx]
    have k2 : ((k : Int) == m) = true := by simp [hx]
    have k3 : decide ((k : Int) = m) = true := by simp [hx]
    cases stay with
    | true =>
      refine ⟨v1, w1, ?_, by rw [if_pos (.inr ⟨hx, rfl⟩)]; exact o1', f1, n1⟩
      unfold g7_l49_x4
      cases is <;> cases had <;> (simp only [hm, k1, k2, k3, addr_add, Nat.zero_add, hc, e1, hw, obs, asP_pointer, asB_bool, asI_int, asS_string, asSl_slice, asM_map, asTup0, asTup1, asTup2, asTup3, asTup4, asTup5, asTup6, asTup7, asTup8, asTup9, asAgg2, asAgg3, asAgg4, asAgg5, asAgg6, asAgg7, asAgg8, asAgg9, asAgg12, getD0, getD1, getD2, getD3, getD4, getD5, getD6, getD7, getD8, getD9, getD10, getD11, getD12, getD13, getD14, getD15, getD16, getD17, getD18, getD19, Bool.not_true, Bool.not_false, Bool.false_eq_true, Bool.true_eq_false, ↓reduceIte, decide_true, decide_false, Option.isNone_some, Option.isNone_none, Option.isSome_some, Option.isSome_none, beq_self_eq_true, bne_self_eq_false, Bool.and_true, Bool.true_and, Bool.and_false, Bool.false_and, not_true_eq_false, not_false_eq_true]; try rfl)
    | false =>
      refine ⟨v, w, ?_, by rw [if_neg (by simp [hx]), List.append_nil]; exact ho, Fr.refl _ _, fun y hy => .inl hy⟩
      unfold g7_l49_x4
      cases is <;> cases had <;> (simp only [hm, k1, k2, k3, addr_add, Nat.zero_add, hc, e1, hw, obs, asP_pointer, asB_bool, asI_int, asS_string, asSl_slice, asM_map, asTup0, asTup1, asTup2, asTup3, asTup4, asTup5, asTup6, asTup7, asTup8, asTup9, asAgg2, asAgg3, asAgg4, asAgg5, asAgg6, asAgg7, asAgg8, asAgg9, asAgg12, getD0, getD1, getD2, getD3, getD4, getD5, getD6, getD7, getD8, getD9, getD10, getD11, getD12, getD13, getD14, getD15, getD16, getD17, getD18, getD19, Bool.not_true, Bool.not_false, Bool.false_eq_true, Bool.true_eq_false, ↓reduceIte, decide_true, decide_false, Option.isNone_some, Option.isNone_none, Option.isSome_some, Option.isSome_none, beq_self_eq_true, bne_self_eq_false, Bool.and_true, Bool.true_and, Bool.and_false, Bool.false_and, not_true_eq_false, not_false_eq_true]; try rfl)
  · have k1 : ((k : Int) != m) = true := by simp [hx]
    have k2 : ((k : Int) == m) = false := by simp [hx]
    have k3 : decide ((k : Int) = m) = false := by simp [hx]
    cases had with
    | true =>
      refine ⟨v1, w1, ?_, by rw [if_pos (.inl ⟨rfl, hx⟩)]; exact o1', f1, n1⟩
      unfold g7_l49_x4
      cases is <;> (simp only [hm, k1, k2, k3, addr_add, Nat.zero_add, hc, e1, hw, obs, asP_pointer, asB_bool, asI_int, asS_string, asSl_slice, asM_map, asTup0, asTup1, asTup2, asTup3, asTup4, asTup5, asTup6, asTup7, asTup8, asTup9, asAgg2, asAgg3, asAgg4, asAgg5, asAgg6, asAgg7, asAgg8, asAgg9, asAgg12, getD0, getD1, getD2, getD3, getD4, getD5, getD6, getD7, getD8, getD9, getD10, getD11, getD12, getD13, getD14, getD15, getD16, getD17, getD18, getD19, Bool.not_true, Bool.not_false, Bool.false_eq_true, Bool.true_eq_false, ↓reduceIte, decide_true, decide_false, Option.isNone_some, Option.isNone_none, Option.isSome_some, Option.isSome_none, beq_self_eq_true, bne_self_eq_false, Bool.and_true, Bool.true_and, Bool.and_false, Bool.false_and, not_true_eq_false, not_false_eq_true]; try rfl)
    | false =>
      refine ⟨v, w, ?_, by rw [if_neg (by simp [hx]), List.append_nil]; exact ho, Fr.refl _ _, fun y hy => .inl hy⟩
      unfold g7_l49_x4
      cases is <;> (simp only [hm, k1, k2, k3, addr_add, Nat.zero_add, hc, e1, hw, obs, asP_pointer, asB_bool, asI_int, asS_string, asSl_slice, asM_map, asTup0, asTup1, asTup2, asTup3, asTup4, asTup5, asTup6, asTup7, asTup8, asTup9, asAgg2, asAgg3, asAgg4, asAgg5, asAgg6, asAgg7, asAgg8, asAgg9, asAgg12, getD0, getD1, getD2, getD3, getD4, getD5, getD6, getD7, getD8, getD9, getD10, getD11, getD12, getD13, getD14, getD15, getD16, getD17, getD18, getD19, Bool.not_true, Bool.not_false, Bool.false_eq_true, Bool.true_eq_false, ↓reduceIte, decide_true, decide_false, Option.isNone_some, Option.isNone_none, Option.isSome_some, Option.isSome_none, beq_self_eq_true, bne_self_eq_false, Bool.and_true, Bool.true_and, Bool.and_false, Bool.false_and, not_true_eq_false, not_false_eq_true]; try rfl)

/-- the twelve numbers -/
theorem now45 {w w8 : World} {s7 : Bool × Int × (Option Addr × Nat × Nat) × Int} {p2 : Option Addr} {n30 n43 m : Int} {r33 : Value × World} {b42 stay : Bool} {u0 : Option Addr × Nat × Nat} {l : List Int} {cs : List Value}
    (h : Own w 3 1 s7.2.2.1 (intsV l)) (hl : l.length ≤ 100) (hm : Int.tmod (IntKind.i64.wrap ((Int.tmod n30 12) + 12)) 12 = m) (hm0 : 0 ≤ m ∧ m < 12) (hB : Blk w w8.heap.size cs 62) (hc : cs[6]? = some (.bool stay)) :
    ∃ v w', loopS (g7_l45_b s7 p2 w8 n30 r33 b42 n43 u0) (false, (none, 0, 0), 0) w = some (.exit 2, (decide (m ∈ l), v, 12), w') ∧ Own w' 3 1 v (intsV (nowL l m stay 12)) ∧ Fr [] w w' ∧ ∀ y ∈ blkOf v, w.heap.size ≤ y := by
  obtain ⟨t, w', g1, v, rfl, o, f, n⟩ := loopS_countX 2 (b := g7_l45_b s7 p2 w8 n30 r33 b42 n43 u0) (n := 12)
    (I := fun k s y => ∃ v, s = (decide (m ∈ l ∧ m < k), v, (k : Int)) ∧ Own y 3 1 v (intsV (nowL l m stay k)) ∧ Fr [] w y ∧ ∀ z ∈ blkOf v, w.heap.size ≤ z)
    (fun k s y hk ⟨v, hs, ho, hF, hn⟩ => by
      subst hs
      obtain ⟨j, g⟩ := had49 (w := y) (s7 := s7) (is := decide (m ∈ l ∧ m < k)) (v := v) (x := (k : Int)) (p2 := p2) (w8 := w8) (n30 := n30) (n43 := n43) (r33 := r33) (b42 := b42) (u0 := u0) (h.fr hF (by simp)).slC (by omega)
      have c6 : y.cell? ⟨w8.heap.size, 6, none⟩ = some (.bool stay) := by rw [(hB.fr hF (by simp)).cell 6]; exact hc
      obtain ⟨v', y', e, o', f', n'⟩ := now_x4 (w8 := w8) (is := decide (m ∈ l ∧ m < k)) (had := decide ((k : Int) ∈ l)) (j := j) hk hm ho (by have := nowL_len l m stay k; omega) c6
      have F' : Fr [] w y' := (hF.app f').mono (by intro z hz hl; simp at hz; have := hn z hz; omega)
      have hsz := hF.size
      refine ⟨_, y', ?_, v', rfl, ?_, F', ?_⟩
      · have k0 : decide ((k : Int) < 12) = true := by simp; omega
        unfold g7_l45_b
        simp only [k0, if_true]
        rw [g7_l49_x4_of g, e]
        congr 3
        have : decide (m ∈ l ∧ m < ((k + 1 : Nat) : Int)) = (decide (m ∈ l ∧ m < (k : Int)) || (decide ((k : Int) ∈ l) && decide ((k : Int) = m))) := by
          rw [Bool.eq_iff_iff]
          simp only [decide_eq_true_eq, Bool.or_eq_true, Bool.and_eq_true]
          constructor
          · rintro ⟨h1, h2⟩
            by_cases hlt : m < (k : Int)
            · exact .inl ⟨h1, hlt⟩
            · have : (k : Int) = m := by omega
              exact .inr ⟨this ▸ h1, this⟩
          · rintro (h | ⟨h1, h2⟩)
            · exact ⟨h.1, by omega⟩
            · exact ⟨h2 ▸ h1, by omega⟩
        rw [this]
      · rw [nowL_succ]
        simpa using o'
      · intro z hz
        rcases n' z hz with hh | hh
        · exact hn z hh
        · omega)
    (fun s y ⟨v, hs, _⟩ => by
      subst hs
      unfold g7_l45_b
      rfl) (k := 0) (s := (false, (none, 0, 0), 0)) (w := w) (Nat.zero_le _) ⟨(none, 0, 0), by simp; omega, by rw [nowL_zero]; exact Own.nil _ _ _, Fr.refl _ _, by simp [blkOf]⟩
  refine ⟨v, w', ?_, o, f, n⟩
  rw [g1]
  have : decide (m ∈ l ∧ m < ((12 : Nat) : Int)) = decide (m ∈ l) := by
    rw [Bool.eq_iff_iff]
    simp only [decide_eq_true_eq]
    exact ⟨fun h => h.1, fun h => ⟨h, by omega⟩⟩
  rw [this]
  rfl
end Go.Proofs.Ytcakijeoeankfaa
