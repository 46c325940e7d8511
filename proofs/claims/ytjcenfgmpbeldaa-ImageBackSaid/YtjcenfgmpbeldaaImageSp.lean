/-
  ImageSp: lemmas on what Go functions of this seat come to (for whatever arguments, as each says). No condition but those that stand in each lemma.
-/
import Derived.Test.YtjcenfgmpbeldaaImageSo
namespace Go.Proofs.Ytjcenfgmpbeldaa
open Go Go.Ev
set_option maxRecDepth 100000
set_option linter.unusedVariables false
set_option linter.unusedSimpArgs false

theorem strIdx_some {s : ByteArray} {i : Int} (h0 : 0 ≤ i) (h1 : i < s.size) : ∃ n, strIdx s i = some n := by
  unfold strIdx
  rw [if_pos h0]
  have : i.toNat < s.size := by omega
  rw [getElem?_pos s i.toNat this]
  exact ⟨_, rfl⟩

theorem len81 (w : World) {u : Int} (h0 : 0 ≤ u) (h1 : u < 18446744073709551616) : ∃ n, callF Try.prog 94 #[.int .u64 u] w = some (.int .i64 n, w) := by
  refine Exists.imp (fun n h => g94_call h) ?_
  have p8 : (2 : Int) ^ (min (Int.toNat 8) 64) = 256 := by decide
  have p16 : (2 : Int) ^ (min (Int.toNat 16) 64) = 65536 := by decide
  have p32 : (2 : Int) ^ (min (Int.toNat 32) 64) = 4294967296 := by decide
  have j7 : ∀ x n : Int, 0 ≤ x → x < 256 → ∃ m, g94_j7 w x n = some (.int .i64 m, w) := by
    intro x n hx0 hx1
    have H : ∀ (T : ByteArray) (y : Int), T.size = 256 → 0 ≤ y → y < 256 → ∃ m, (strIdx T y).bind (fun n10 => some (Value.int .i64 (IntKind.i64.wrap (n + IntKind.i64.wrap n10)), w)) = some (.int .i64 m, w) := by
      intro T y hT hy0 hy1
      obtain ⟨m, hm⟩ := strIdx_some (s := T) hy0 (by omega)
      rw [hm]
      exact ⟨_, rfl⟩
    unfold g94_j7
    refine H _ _ ?_ ?_ ?_
    · decide
    · have e : IntKind.u8.wrap x = x % 256 := by simp [IntKind.wrap, IntKind.bits, IntKind.signed]
      rw [e]; omega
    · have e : IntKind.u8.wrap x = x % 256 := by simp [IntKind.wrap, IntKind.bits, IntKind.signed]
      rw [e]; omega
  have j4 : ∀ x n : Int, 0 ≤ x → x < 65536 → ∃ m, g94_j4 w x n = some (.int .i64 m, w) := by
    intro x n hx0 hx1
    unfold g94_j4
    rw [p8]
    split
    · exact j7 _ _ (by rw [Int.fdiv_eq_ediv_of_nonneg _ (by omega)]; omega) (by rw [Int.fdiv_eq_ediv_of_nonneg _ (by omega)]; omega)
    · rename_i h
      simp at h
      exact j7 _ _ hx0 h
  have j1 : ∀ x n : Int, 0 ≤ x → x < 4294967296 → ∃ m, g94_j1 w x n = some (.int .i64 m, w) := by
    intro x n hx0 hx1
    unfold g94_j1
    rw [p16]
    split
    · exact j4 _ _ (by rw [Int.fdiv_eq_ediv_of_nonneg _ (by omega)]; omega) (by rw [Int.fdiv_eq_ediv_of_nonneg _ (by omega)]; omega)
    · rename_i h
      simp at h
      exact j4 _ _ hx0 h
  unfold g94
  rw [p32]
  split
  · exact j1 _ _ (by rw [Int.fdiv_eq_ediv_of_nonneg _ (by omega)]; omega) (by rw [Int.fdiv_eq_ediv_of_nonneg _ (by omega)]; omega)
  · rename_i h
    simp at h
    exact j1 _ _ h0 h

theorem len64 (w : World) {u : Int} (h0 : 0 ≤ u) (h1 : u < 18446744073709551616) : ∃ n, callF Try.prog 69 #[.int .u64 u] w = some (.int .i64 n, w) := by
  obtain ⟨n, e⟩ := len81 w h0 h1
  refine ⟨n, g69_call ?_⟩
  unfold g69
  simp only [e, obs, asP_pointer, asB_bool, asI_int, asS_string, asSl_slice, asM_map, asTup0, asTup1, asTup2, asTup3, asTup4, asTup5, asTup6, asTup7, asTup8, asTup9, asAgg2, asAgg3, asAgg4, asAgg5, asAgg6, asAgg7, asAgg8, asAgg9, asAgg12, getD0, getD1, getD2, getD3, getD4, getD5, getD6, getD7, getD8, getD9, getD10, getD11, getD12, getD13, getD14, getD15, getD16, getD17, getD18, getD19, Bool.not_true, Bool.not_false, Bool.false_eq_true, Bool.true_eq_false, ↓reduceIte, decide_true, decide_false, Option.isNone_some, Option.isNone_none, Option.isSome_some, Option.isSome_none, beq_self_eq_true, bne_self_eq_false, Bool.and_true, Bool.true_and, Bool.and_false, Bool.false_and, not_true_eq_false, not_false_eq_true]

theorem srt_pairwise {l : List Int} (h : Srt l 0 l.length) : l.Pairwise (· ≤ ·) := by
  rw [List.pairwise_iff_getElem]
  intro i j hi hj hij
  have := h i j (Nat.zero_le _) hij hj
  simpa [hi, hj] using this

/-- slices.Sort, of at most twelve numbers -/
theorem sort33s {w : World} {q : Option Addr × Nat × Nat} {l : List Int} (hw : Own w 3 1 q (intsV l)) (hn : l.length ≤ 12) :
    ∃ l' w', callF Try.prog 35 #[.slice q.1 q.2.1 q.2.2] w = some (.tuple #[], w') ∧ Own w' 3 1 q (intsV l') ∧ Fr (blkOf q) w w' ∧ l'.Perm l ∧ l'.Pairwise (· ≤ ·) := by
  have hq := hw.len
  simp only [intsV, List.length_map] at hq
  have hq1 : q.2.1 = l.length := by omega
  have hu : IntKind.u64.wrap (q.2.1 : Int) = (q.2.1 : Int) := wrap_u64 (by omega) (by omega)
  obtain ⟨n, e1⟩ := len64 w (u := (q.2.1 : Int)) (by omega) (by omega)
  obtain ⟨l', w', e2, o, f, r, s⟩ := ins71 hw (a := 0) (b := l.length) (Nat.zero_le _) (Nat.le_refl _) (by omega)
  refine ⟨l', w', g35_call ?_, o, f, r.perm, srt_pairwise (by rw [r.len]; exact s)⟩
  have k1 : decide (IntKind.i64.wrap ((l.length : Int) - 0) ≤ 12) = true := by rw [wrap_i64 (by omega) (by omega)]; simp; omega
  have e63 : callF Try.prog 68 #[.slice q.1 q.2.1 q.2.2, .int .i64 0, .int .i64 (l.length : Int), .int .i64 n] w = some (.tuple #[], w') := by
    refine g68_call ?_
    obtain ⟨e, t, x, g1, rfl, rfl⟩ := loopS_rule (b := g68_l1_b q) (I := fun k s x => s = ((0 : Int), (l.length : Int), n, true, true) ∧ x = w) (Q := fun e s x => e = .ret ∧ x = w') (n := 0) (fun k s x hk _ => by omega)
      (fun s x ⟨hs, hx⟩ => by
        subst hs hx
        refine ⟨.ret, ((0 : Int), (l.length : Int), n, true, true), w', ?_, by simp, rfl, rfl⟩
        unfold g68_l1_b
        have e2' : callF Try.prog 84 #[.slice q.1 q.2.1 q.2.2, .int .i64 0, .int .i64 (l.length : Int)] x = some (.tuple #[], w') := e2
        simp only [k1, if_true]
        simp only [e2', obs, asP_pointer, asB_bool, asI_int, asS_string, asSl_slice, asM_map, asTup0, asTup1, asTup2, asTup3, asTup4, asTup5, asTup6, asTup7, asTup8, asTup9, asAgg2, asAgg3, asAgg4, asAgg5, asAgg6, asAgg7, asAgg8, asAgg9, asAgg12, getD0, getD1, getD2, getD3, getD4, getD5, getD6, getD7, getD8, getD9, getD10, getD11, getD12, getD13, getD14, getD15, getD16, getD17, getD18, getD19, Bool.not_true, Bool.not_false, Bool.false_eq_true, Bool.true_eq_false, ↓reduceIte, decide_true, decide_false, Option.isNone_some, Option.isNone_none, Option.isSome_some, Option.isSome_none, beq_self_eq_true, bne_self_eq_false, Bool.and_true, Bool.true_and, Bool.and_false, Bool.false_and, not_true_eq_false, not_false_eq_true]) (k := 0) (s := ((0 : Int), (l.length : Int), n, true, true)) (w := w) (Nat.le_refl _) ⟨rfl, rfl⟩
    unfold g68
    rw [g68_l1_ret_of g1, g68_l1_ret]
  unfold g35
  rw [hu, hq1] at *
  simp only [e1, e63, obs, asP_pointer, asB_bool, asI_int, asS_string, asSl_slice, asM_map, asTup0, asTup1, asTup2, asTup3, asTup4, asTup5, asTup6, asTup7, asTup8, asTup9, asAgg2, asAgg3, asAgg4, asAgg5, asAgg6, asAgg7, asAgg8, asAgg9, asAgg12, getD0, getD1, getD2, getD3, getD4, getD5, getD6, getD7, getD8, getD9, getD10, getD11, getD12, getD13, getD14, getD15, getD16, getD17, getD18, getD19, Bool.not_true, Bool.not_false, Bool.false_eq_true, Bool.true_eq_false, ↓reduceIte, decide_true, decide_false, Option.isNone_some, Option.isNone_none, Option.isSome_some, Option.isSome_none, beq_self_eq_true, bne_self_eq_false, Bool.and_true, Bool.true_and, Bool.and_false, Bool.false_and, not_true_eq_false, not_false_eq_true]
end Go.Proofs.Ytjcenfgmpbeldaa
