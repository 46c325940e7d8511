/-
  GroupOwners: lemmas on what Go functions of this seat come to (for whatever arguments, as each says). No condition but those that stand in each lemma.
-/
import Derived.Test.YtcakijeoeankfaaRs
import Derived.Test.YtcakijeoeankfaaGroupL3
import Derived.Test.YtcakijeoeankfaaGroupE
namespace Go.Proofs.Ytcakijeoeankfaa
open Go Go.Ev
set_option maxRecDepth 100000
set_option linter.unusedVariables false
set_option linter.unusedSimpArgs false

def cnt (m k i : Nat) : Nat := (k + (m - 1 - i)) / m
theorem cnt_zero {m i : Nat} (hi : i < m) : cnt m 0 i = 0 := by
  unfold cnt
  exact Nat.div_eq_of_lt (by omega)
theorem cnt_succ {m k i : Nat} (hi : i < m) : cnt m (k + 1) i = cnt m k i + (if k % m = i then 1 else 0) := by
  unfold cnt
  have e : k + 1 + (m - 1 - i) = (k + (m - 1 - i)) + 1 := by omega
  rw [e, Nat.succ_div]
  congr 1
  have hm : 0 < m := by omega
  have h2 : m ∣ k + (m - 1 - i) + 1 ↔ k % m = i := by
    have e2 : k + (m - 1 - i) + 1 = k + m - i := by omega
    rw [e2]
    have hk := Nat.div_add_mod k m
    have hr := Nat.mod_lt k hm
    constructor
    · rintro ⟨c, hc⟩
      have h3 : k + m = m * c + i := by omega
      have h4 : (k + m) % m = i := by rw [h3, Nat.mul_add_mod]; exact Nat.mod_eq_of_lt hi
      rw [Nat.add_mod_right] at h4
      exact h4
    · intro hh
      refine ⟨k / m + 1, ?_⟩
      rw [Nat.mul_add]
      omega
  by_cases h : k % m = i
  · rw [if_pos h, if_pos (h2.mpr h)]
  · rw [if_neg h, if_neg (fun hh => h (h2.mp hh))]
theorem cnt_bounds {m k i : Nat} (hi : i < m) : k / m ≤ cnt m k i ∧ cnt m k i ≤ k / m + 1 := by
  unfold cnt
  refine ⟨Nat.div_le_div_right (by omega), ?_⟩
  have : (k + (m - 1 - i)) / m ≤ (k + m) / m := Nat.div_le_div_right (by omega)
  rw [Nat.add_div_right _ (by omega)] at this
  exact this

def cntL (m k : Nat) : List Int := (List.range m).map fun i => (cnt m k i : Int)
theorem cntL_len (m k : Nat) : (cntL m k).length = m := by simp [cntL]
theorem cntL_get {m k i : Nat} (hi : i < m) : (cntL m k).getD i 0 = (cnt m k i : Int) := by simp [cntL, hi]
theorem cntL_succ {m k : Nat} (hm : 0 < m) : cntL m (k + 1) = (cntL m k).set (k % m) ((cnt m k (k % m) : Int) + 1) := by
  apply List.ext_getElem
  · simp [cntL]
  · intro i h1 h2
    have hi : i < m := by simpa [cntL] using h1
    rw [List.getElem_set]
    simp only [cntL, List.getElem_map, List.getElem_range]
    rw [cnt_succ hi]
    split
    · rename_i h; rw [h]; simp
    · rename_i h; simp [h]

theorem owners_round {x r1w : World} {v1 : Value} {u0 : Option Addr × Nat × Nat} {u1 : Int} {l : List Int} {N k : Nat} (hN : IntKind.i64.wrap (Int.tmod u1 40) = (N : Int)) (hN2 : N < 1000) (hk : k < N) (hsl : SlC x 1 u0 (intsV' l)) (hb : ∀ y ∈ blkOf u0, y ≠ r1w.heap.size)
    (ho : Own x 3 1 (some ⟨r1w.heap.size, 0, none⟩, l.length, l.length) (intsV' (cntL l.length k))) :
    ∃ x', g3_l4_b u1 u0 (v1, r1w) (false, (k : Int)) x = some (.normal, (false, ((k + 1 : Nat) : Int)), x') ∧ Own x' 3 1 (some ⟨r1w.heap.size, 0, none⟩, l.length, l.length) (intsV' (cntL l.length (k + 1))) ∧ Fr [r1w.heap.size] x x' := by
  have hl := hsl.1
  simp only [intsV', List.length_map] at hl
  have hq : u0.2.1 = l.length := by omega
  have k0 : decide ((k : Int) < (N : Int)) = true := by simp; omega
  have hs := wrap_succ (n := k) (by omega)
  have e10 := owner10 hsl k
  have e11 := owner11 hsl k
  have kne : ∀ z : Int, (z != z) = false := by simp
  by_cases h0 : l.length = 0
  · rw [if_pos h0] at e10 e11
    have k1 : ((u0.2.1 : Int) == 0) = true := by rw [show u0.2.1 = 0 by omega]; rfl
    have k2 : decide ((u0.2.1 : Int) > 0) = false := by simp; omega
    have hc : cntL l.length (k + 1) = cntL l.length k := by rw [h0]; rfl
    rw [hc]
    refine ⟨x, ?_, ho, Fr.refl _ _⟩
    unfold g3_l4_b
    rw [hN]
    simp only [k0, e10, e11, kne, k1, k2, hs, obs, asP_pointer, asB_bool, asI_int, asS_string, asSl_slice, asM_map, asTup0, asTup1, asTup2, asTup3, asTup4, asTup5, asTup6, asTup7, asTup8, asTup9, asAgg2, asAgg3, asAgg4, asAgg5, asAgg6, asAgg7, asAgg8, asAgg9, asAgg12, getD0, getD1, getD2, getD3, getD4, getD5, getD6, getD7, getD8, getD9, getD10, getD11, getD12, getD13, getD14, getD15, getD16, getD17, getD18, getD19, Bool.not_true, Bool.not_false, Bool.false_eq_true, Bool.true_eq_false, ↓reduceIte, decide_true, decide_false, Option.isNone_some, Option.isNone_none, Option.isSome_some, Option.isSome_none, beq_self_eq_true, bne_self_eq_false, Bool.and_true, Bool.true_and, Bool.and_false, Bool.false_and, not_true_eq_false, not_false_eq_true]
  · rw [if_neg h0] at e10 e11
    have k1 : ((u0.2.1 : Int) == 0) = false := by simp; omega
    have k2 : decide ((u0.2.1 : Int) > 0) = true := by simp; omega
    have k3 : ¬ ((u0.2.1 : Int) = 0) := by omega
    have hm : k % l.length < l.length := Nat.mod_lt _ (by omega)
    have htn : Int.toNat (u0.2.1 : Int) = l.length := by simp [hq]
    have htm : Int.tmod (k : Int) (u0.2.1 : Int) = ((k % l.length : Nat) : Int) := by rw [hq, tmod_nat _ _ (by omega)]
    obtain ⟨g, off, qa, i1, c1⟩ := ints_at ho (i := k % l.length) (by rw [cntL_len]; exact hm)
    cases qa
    obtain ⟨s1, o1, f1⟩ := ho.set (g := r1w.heap.size) (off := 0) rfl (k := k % l.length) (by simp [cntL_len, hm]) (u := .int .i64 ((cnt l.length k (k % l.length) : Int) + 1)) rfl
    rw [cntL_get hm] at c1
    have hcw : IntKind.i64.wrap ((cnt l.length k (k % l.length) : Int) + 1) = (cnt l.length k (k % l.length) : Int) + 1 := by
      have hb2 := (cnt_bounds (m := l.length) (k := k) hm).2
      have : k / l.length ≤ k := Nat.div_le_self _ _
      apply wrap_i64 <;> omega
    obtain ⟨x1, hx1⟩ : ∃ x1, x.setCell ⟨r1w.heap.size, 0 + k % l.length, none⟩ (.int .i64 ((cnt l.length k (k % l.length) : Int) + 1)) = x1 := ⟨_, rfl⟩
    rw [hx1] at s1 o1 f1
    have f1' : Fr [r1w.heap.size] x x1 := f1.mono (by intro y hy _; simpa [blkOf] using hy)
    have hsl1 := hsl.fr f1' (fun _ y hy hm' => by simp at hm'; exact hb y hy hm')
    obtain ⟨a, i2, c2⟩ := hsl1.get (i := k % l.length) (by simpa using hm)
    have c2' : x1.cell? a = some (.int .i64 (l.getD (k % l.length) 0)) := by rw [c2]; simp [hm]
    have ec : intsV' (cntL l.length (k + 1)) = (intsV' (cntL l.length k)).set (k % l.length) (.int .i64 ((cnt l.length k (k % l.length) : Int) + 1)) := by rw [cntL_succ (by omega)]; simp [intsV', List.map_set]
    rw [ec]
    refine ⟨x1, ?_, o1, f1'⟩
    simp only at i1
    unfold g3_l4_b
    rw [hN]
    simp only [k0, e10, e11, kne, k1, k2, obs, asP_pointer, asB_bool, asI_int, asS_string, asSl_slice, asM_map, asTup0, asTup1, asTup2, asTup3, asTup4, asTup5, asTup6, asTup7, asTup8, asTup9, asAgg2, asAgg3, asAgg4, asAgg5, asAgg6, asAgg7, asAgg8, asAgg9, asAgg12, getD0, getD1, getD2, getD3, getD4, getD5, getD6, getD7, getD8, getD9, getD10, getD11, getD12, getD13, getD14, getD15, getD16, getD17, getD18, getD19, Bool.not_true, Bool.not_false, Bool.false_eq_true, Bool.true_eq_false, ↓reduceIte, decide_true, decide_false, Option.isNone_some, Option.isNone_none, Option.isSome_some, Option.isSome_none, beq_self_eq_true, bne_self_eq_false, Bool.and_true, Bool.true_and, Bool.and_false, Bool.false_and, not_true_eq_false, not_false_eq_true]
    rw [if_neg k3, htn, htm]
    simp only [i1, c1, hcw, s1, obs, asP_pointer, asB_bool, asI_int, asS_string, asSl_slice, asM_map, asTup0, asTup1, asTup2, asTup3, asTup4, asTup5, asTup6, asTup7, asTup8, asTup9, asAgg2, asAgg3, asAgg4, asAgg5, asAgg6, asAgg7, asAgg8, asAgg9, asAgg12, getD0, getD1, getD2, getD3, getD4, getD5, getD6, getD7, getD8, getD9, getD10, getD11, getD12, getD13, getD14, getD15, getD16, getD17, getD18, getD19, Bool.not_true, Bool.not_false, Bool.false_eq_true, Bool.true_eq_false, ↓reduceIte, decide_true, decide_false, Option.isNone_some, Option.isNone_none, Option.isSome_some, Option.isSome_none, beq_self_eq_true, bne_self_eq_false, Bool.and_true, Bool.true_and, Bool.and_false, Bool.false_and, not_true_eq_false, not_false_eq_true]
    rw [if_neg k3]
    simp only [i2, c2', kne, hs, obs, asP_pointer, asB_bool, asI_int, asS_string, asSl_slice, asM_map, asTup0, asTup1, asTup2, asTup3, asTup4, asTup5, asTup6, asTup7, asTup8, asTup9, asAgg2, asAgg3, asAgg4, asAgg5, asAgg6, asAgg7, asAgg8, asAgg9, asAgg12, getD0, getD1, getD2, getD3, getD4, getD5, getD6, getD7, getD8, getD9, getD10, getD11, getD12, getD13, getD14, getD15, getD16, getD17, getD18, getD19, Bool.not_true, Bool.not_false, Bool.false_eq_true, Bool.true_eq_false, ↓reduceIte, decide_true, decide_false, Option.isNone_some, Option.isNone_none, Option.isSome_some, Option.isSome_none, beq_self_eq_true, bne_self_eq_false, Bool.and_true, Bool.true_and, Bool.and_false, Bool.false_and, not_true_eq_false, not_false_eq_true]

theorem slC_of_slI {w : World} {s : Option Addr × Nat × Nat} {zs : List Int} (h : SlI .i64 w s zs) : SlC w 1 s (intsV' zs) := by
  refine ⟨by simp [h.1], fun h0 => ?_⟩
  obtain ⟨b, off, h1, h2, h3⟩ := h.2 (by rw [← h.1]; simpa using h0)
  exact ⟨b, off, h1, h2, fun i hi => by simpa using h3 i (by simpa using hi)⟩

theorem len_bulk {x : (Ty.slice (.int .i64)).Val} : x.2.length ≤ (Ty.slice (.int .i64)).bulk x := by
  have h1 : (Ty.slice (.int .i64)).bulk x = (x.2.map (Ty.bulk (.int .i64))).sum + 1 := rfl
  have : ∀ l : List Int, l.length ≤ (l.map (Ty.bulk (.int .i64))).sum := by
    intro l
    induction l with
    | nil => simp
    | cons a l ih =>
      have h2 : Ty.bulk (.int .i64) a = 1 := rfl
      simp only [List.map_cons, List.sum_cons, List.length_cons]
      omega
  have := this x.2
  omega

theorem GroupOwners_main (W : World) (x0 : (Ty.slice (.int .i64)).Val) (h0 : (Ty.slice (.int .i64)).At W [.slice x0.1.1 x0.1.2.1 x0.1.2.2] x0) (n1 : Int) (h1 : IntKind.u8.min ≤ n1 ∧ n1 ≤ IntKind.u8.max) (hs0 : Ty.Fits (.slice (.int .i64)) x0) :
    ∃ w', callF Try.prog 3 #[.slice x0.1.1 x0.1.2.1 x0.1.2.2, .int .u8 n1] W = some (.bool true, w') ∧ Fr [] W w' := by
  have hlb := Fits.i64 hs0
  have hml : maxLen = 9223372036854775807 := by decide
  have hu : (0 : Int) ≤ n1 ∧ n1 ≤ 255 := h1
  obtain ⟨N, hN⟩ : ∃ N : Nat, (N : Int) = Int.tmod n1 40 := ⟨(Int.tmod n1 40).toNat, by rw [Int.toNat_of_nonneg (Int.tmod_nonneg _ hu.1)]⟩
  have hN40 : N < 40 := by have := Int.tmod_lt_of_pos n1 (show (0 : Int) < 40 by omega); omega
  have hNw : IntKind.i64.wrap (Int.tmod n1 40) = (N : Int) := by rw [← hN]; exact wrap_i64 (by omega) (by omega)
  obtain ⟨w1, e1, f1⟩ := awake9 W
  obtain ⟨hsI, hle, hbk⟩ := slI_of_at h0
  have hsl := slC_of_slI hsI
  have hlen : x0.2.length = x0.1.2.1 := hsI.1
  have hold : ∀ y ∈ blkOf x0.1, 0 < x0.2.length → y < W.heap.size := fun y hy h => hsl.lt (by simpa using h) y hy
  have om := own_make w1 3 (z := .int .i64 0) rfl (n := x0.2.length) (c := x0.2.length) (Nat.le_refl _) (by omega)
  have fm : Fr [] w1 (w1.alloc (.cells (zrow (.int .i64 0) (x0.2.length * 1)) 3)) := Fr.alloc _
  obtain ⟨w2, hw2⟩ : ∃ w2, w1.alloc (.cells (zrow (.int .i64 0) (x0.2.length * 1)) 3) = w2 := ⟨_, rfl⟩
  rw [hw2] at om fm
  have z1 := f1.size
  have zm := fm.size
  have o2 : Own w2 3 1 (some ⟨w1.heap.size, 0, none⟩, x0.2.length, x0.2.length) (intsV' (cntL x0.2.length 0)) := by
    have : intsV' (cntL x0.2.length 0) = List.replicate x0.2.length (.int .i64 0) := by
      apply List.ext_getElem
      · simp [cntL]
      · intro i h1 h2
        have hi : i < x0.2.length := by simpa using h2
        simp [cntL, cnt_zero hi]
    rw [this]; exact om
  have hbk2 : ∀ (x : World), 0 < x0.2.length → ∀ y ∈ blkOf x0.1, y ≠ w1.heap.size := fun x h y hy => by have := hold y hy h; omega
  -- the members are read; the case of none apart
  have hslx : ∀ {S : List Nat} {x : World}, Fr S W x → (∀ y ∈ S, W.heap.size ≤ y) → SlC x 1 x0.1 (intsV' x0.2) := fun hf hS => hsl.fr hf (fun h y hy hm => by have := hold y hy (by simpa using h); have := hS y hm; omega)
  obtain ⟨t, w3, g1, rfl, f3, o3⟩ := loopS_countX 0 (b := g3_l4_b n1 x0.1 (.bool true, w1)) (I := fun k s x => s = (false, (k : Int)) ∧ Fr [] W x ∧ Own x 3 1 (some ⟨w1.heap.size, 0, none⟩, x0.2.length, x0.2.length) (intsV' (cntL x0.2.length k))) (n := N)
    (fun k s x hk ⟨hs, hf, ho⟩ => by
      subst hs
      by_cases hz : x0.2.length = 0
      · have hsx := hslx hf (by simp)
        have e0 : SlC x 1 (none, x0.1.2.1, x0.1.2.2) (intsV' x0.2) := ⟨hsx.1, fun h => by simp at h; omega⟩
        have hs' := wrap_succ (n := k) (by omega)
        have e10 := owner10 hsx k
        have e11 := owner11 hsx k
        rw [if_pos hz] at e10 e11
        have k0 : decide ((k : Int) < (N : Int)) = true := by simp; omega
        have kne : ∀ z : Int, (z != z) = false := by simp
        have k1 : ((x0.1.2.1 : Int) == 0) = true := by rw [show x0.1.2.1 = 0 by omega]; rfl
        have k2 : decide ((x0.1.2.1 : Int) > 0) = false := by simp; omega
        have hc : cntL x0.2.length (k + 1) = cntL x0.2.length k := by rw [hz]; rfl
        refine ⟨_, x, ?_, rfl, hf, by rw [hc]; exact ho⟩
        unfold g3_l4_b
        rw [hNw]
        simp only [k0, e10, e11, kne, k1, k2, hs', obs, asP_pointer, asB_bool, asI_int, asS_string, asSl_slice, asM_map, asTup0, asTup1, asTup2, asTup3, asTup4, asTup5, asTup6, asTup7, asTup8, asTup9, asAgg2, asAgg3, asAgg4, asAgg5, asAgg6, asAgg7, asAgg8, asAgg9, asAgg12, getD0, getD1, getD2, getD3, getD4, getD5, getD6, getD7, getD8, getD9, getD10, getD11, getD12, getD13, getD14, getD15, getD16, getD17, getD18, getD19, Bool.not_true, Bool.not_false, Bool.false_eq_true, Bool.true_eq_false, ↓reduceIte, decide_true, decide_false, Option.isNone_some, Option.isNone_none, Option.isSome_some, Option.isSome_none, beq_self_eq_true, bne_self_eq_false, Bool.and_true, Bool.true_and, Bool.and_false, Bool.false_and, not_true_eq_false, not_false_eq_true]
      · obtain ⟨x', e, o', f'⟩ := owners_round (v1 := .bool true) hNw (by omega) hk (hslx hf (by simp)) (hbk2 x (by omega)) ho
        exact ⟨_, x', e, rfl, (hf.app f').mono (by intro y hy hl; simp at hy; omega), o'⟩)
    (fun s x ⟨hs, _⟩ => by
      subst hs
      unfold g3_l4_b
      rw [hNw]
      simp) (k := 0) (s := (false, 0)) (w := w2) (Nat.zero_le _) ⟨rfl, (Fr.mono (Fr.app f1 fm) (by have z0_ := Fr.size f1; have z1_ := Fr.size fm; intro y_ hy_ hl_; grind [blkOf])), o2⟩
  -- the counts
  have htn : Int.toNat (x0.1.2.1 : Int) = x0.2.length := by simp [hlen]
  obtain ⟨t, w4, g2, rfl, rfl⟩ := loopS_countX 2 (b := g3_l40_b x0.1 (.bool true, w1) n1) (I := fun k s x => s = (false, (k : Int)) ∧ x = w3) (n := x0.2.length)
    (fun k s x hk ⟨hs, hx⟩ => by
      subst hs hx
      have hs' := wrap_succ (n := k) (by omega)
      obtain ⟨g, off, qa, i1, c1⟩ := ints_at o3 (i := k) (by rw [cntL_len]; exact hk)
      rw [cntL_get hk] at c1
      have hcb := cnt_bounds (m := x0.2.length) (k := N) hk
      have k0 : decide ((k : Int) < ((x0.2.length : Nat) : Int)) = true := by simp; omega
      have k3 : ¬ ((x0.1.2.1 : Int) = 0) := by omega
      have hdiv : Int.tdiv (N : Int) (x0.1.2.1 : Int) = ((N / x0.2.length : Nat) : Int) := by
        rw [Int.tdiv_eq_ediv_of_nonneg (by omega), ← hlen]; simp
      have hdn : N / x0.2.length ≤ N := Nat.div_le_self _ _
      have hw1' : IntKind.i64.wrap ((N / x0.2.length : Nat) : Int) = ((N / x0.2.length : Nat) : Int) := wrap_i64 (by omega) (by omega)
      have hw2' : IntKind.i64.wrap (((N / x0.2.length : Nat) : Int) + 1) = ((N / x0.2.length : Nat) : Int) + 1 := wrap_i64 (by omega) (by omega)
      have k4 : decide ((cnt x0.2.length N k : Int) < ((N / x0.2.length : Nat) : Int)) = false := by simp only [decide_eq_false_iff_not]; omega
      have k5 : decide ((cnt x0.2.length N k : Int) > ((N / x0.2.length : Nat) : Int) + 1) = false := by simp only [decide_eq_false_iff_not]; omega
      refine ⟨_, x, ?_, rfl, rfl⟩
      simp only at i1
      unfold g3_l40_b
      rw [hNw, hdiv, hw1', hw2', htn]
      simp only [k0, i1, c1, obs, asP_pointer, asB_bool, asI_int, asS_string, asSl_slice, asM_map, asTup0, asTup1, asTup2, asTup3, asTup4, asTup5, asTup6, asTup7, asTup8, asTup9, asAgg2, asAgg3, asAgg4, asAgg5, asAgg6, asAgg7, asAgg8, asAgg9, asAgg12, getD0, getD1, getD2, getD3, getD4, getD5, getD6, getD7, getD8, getD9, getD10, getD11, getD12, getD13, getD14, getD15, getD16, getD17, getD18, getD19, Bool.not_true, Bool.not_false, Bool.false_eq_true, Bool.true_eq_false, ↓reduceIte, decide_true, decide_false, Option.isNone_some, Option.isNone_none, Option.isSome_some, Option.isSome_none, beq_self_eq_true, bne_self_eq_false, Bool.and_true, Bool.true_and, Bool.and_false, Bool.false_and, not_true_eq_false, not_false_eq_true]
      rw [if_neg k3, if_neg (by simp only [k4]; simp), if_neg k3, if_neg (by simp only [k5]; simp), hs'])
    (fun s x ⟨hs, hx⟩ => by
      subst hs hx
      unfold g3_l40_b
      rw [htn]
      simp) (k := 0) (s := (false, 0)) (w := w3) (Nat.zero_le _) ⟨rfl, rfl⟩
  have hneg : IntKind.i64.wrap (-1 - (N : Int)) = -1 - (N : Int) := wrap_i64 (by omega) (by omega)
  have e10n := owner10n w4 x0.1 (k := -1 - (N : Int)) (by omega)
  have e10z := owner10 (w := w4) (q := (none, 0, 0)) (l := []) ⟨rfl, by simp⟩ N
  simp only [List.length_nil, if_true] at e10z
  refine ⟨w4, g3_call ?_, f3⟩
  have cond : (0 : Int) ≤ (x0.1.2.1 : Int) ∧ (x0.1.2.1 : Int) ≤ (x0.1.2.1 : Int) ∧ (x0.1.2.1 : Int) < 9223372036854775808 ∧ ((8 : Nat) : Int) * (x0.1.2.1 : Int) ≤ 2 ^ 48 ∧ (0 : Nat) < 1 := by
    refine ⟨by omega, Int.le_refl _, by omega, by omega, by omega⟩
  have kk : ((-1 : Int) == -1) = true := rfl
  unfold g3
  rw [e1]
  simp only [obs, asP_pointer, asB_bool, asI_int, asS_string, asSl_slice, asM_map, asTup0, asTup1, asTup2, asTup3, asTup4, asTup5, asTup6, asTup7, asTup8, asTup9, asAgg2, asAgg3, asAgg4, asAgg5, asAgg6, asAgg7, asAgg8, asAgg9, asAgg12, getD0, getD1, getD2, getD3, getD4, getD5, getD6, getD7, getD8, getD9, getD10, getD11, getD12, getD13, getD14, getD15, getD16, getD17, getD18, getD19, Bool.not_true, Bool.not_false, Bool.false_eq_true, Bool.true_eq_false, ↓reduceIte, decide_true, decide_false, Option.isNone_some, Option.isNone_none, Option.isSome_some, Option.isSome_none, beq_self_eq_true, bne_self_eq_false, Bool.and_true, Bool.true_and, Bool.and_false, Bool.false_and, not_true_eq_false, not_false_eq_true]
  rw [if_pos cond, htn, hw2, g3_l4_x0_of g1]
  unfold g3_l4_x0
  rw [g3_l40_x2_of g2]
  unfold g3_l40_x2
  rw [hNw, hneg]
  simp only [e10n, kk, e10z, obs, asP_pointer, asB_bool, asI_int, asS_string, asSl_slice, asM_map, asTup0, asTup1, asTup2, asTup3, asTup4, asTup5, asTup6, asTup7, asTup8, asTup9, asAgg2, asAgg3, asAgg4, asAgg5, asAgg6, asAgg7, asAgg8, asAgg9, asAgg12, getD0, getD1, getD2, getD3, getD4, getD5, getD6, getD7, getD8, getD9, getD10, getD11, getD12, getD13, getD14, getD15, getD16, getD17, getD18, getD19, Bool.not_true, Bool.not_false, Bool.false_eq_true, Bool.true_eq_false, ↓reduceIte, decide_true, decide_false, Option.isNone_some, Option.isNone_none, Option.isSome_some, Option.isSome_none, beq_self_eq_true, bne_self_eq_false, Bool.and_true, Bool.true_and, Bool.and_false, Bool.false_and, not_true_eq_false, not_false_eq_true]
end Go.Proofs.Ytcakijeoeankfaa
