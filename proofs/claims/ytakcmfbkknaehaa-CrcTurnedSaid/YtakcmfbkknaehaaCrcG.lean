/-
  CrcG: lemmas on what Go functions of this seat come to (for whatever arguments, as each says). No condition but those that stand in each lemma.
-/
import Derived.Test.YtakcmfbkknaehaaCrcE
import Derived.Test.YtakcmfbkknaehaaCrcF2
namespace Go.Proofs.Ytakcmfbkknaehaa
open Go Go.Ev Go.Crc
set_option maxRecDepth 100000
set_option linter.unusedVariables false
set_option linter.unusedSimpArgs false
theorem u32_range {n : Int} (h : IntKind.u32.min ≤ n ∧ n ≤ IntKind.u32.max) : 0 ≤ n ∧ n < 4294967296 := by
  have h1 : IntKind.u32.min = 0 := by decide
  have h2 : IntKind.u32.max = 4294967295 := by decide
  rw [h1, h2] at h; omega

theorem bulk_len {x : (Ty.slice (.int .u8)).Val} {n : Nat} (h : (Ty.slice (.int .u8)).bulk x ≤ n) : x.2.length < n := by
  have : ∀ l : List Int, (l.map (Ty.int .u8).bulk).sum = l.length := by
    intro l; induction l with
    | nil => rfl
    | cons a l ih => rw [List.map_cons, List.sum_cons, ih]; simp [Ty.bulk]; omega
  have e : (Ty.slice (.int .u8)).bulk x = x.2.length + 1 := by rw [← this x.2]; rfl
  omega

theorem zs_of {zs : List Int} (h : ∀ z ∈ zs, IntKind.u8.min ≤ z ∧ z ≤ IntKind.u8.max) : Zs zs := fun z hz => u8_range (h z hz)

section
variable {w : World}
theorem zrow0 : (Value.int .u8 0).cells = #[Value.int .u8 0] := rfl

theorem own11 {u : Option Addr × Nat × Nat} {zs : List Int} (hu : Sl8 w u zs) (hl : zs.length ≤ 140737488355000) :
    ∃ q w', callF Try.prog 11 #[.slice u.1 u.2.1 u.2.2] w = some (.slice q.1 q.2.1 q.2.2, w') ∧ Own w' 5 1 q (zs.map (Value.int .u8)) ∧ blkOf q = [w.heap.size] ∧ w.heap.size < w'.heap.size ∧ Fr [] w w' := by
  have hlu := hu.1
  have hc : IntKind.i64.wrap ((u.2.1 : Int) + 9) = ((u.2.1 + 9 : Nat) : Int) := by rw [wrap_i64 (by omega) (by omega)]; omega
  have hml : maxLen = 9223372036854775807 := by decide
  have ho := own_make w 5 zrow0 (n := u.2.1) (c := u.2.1 + 9) (by omega) (by omega)
  have fa : Fr [] w (w.alloc (.cells (zrow (.int .u8 0) ((u.2.1 + 9) * 1)) 5)) := Fr.alloc _
  have hsz : (w.alloc (.cells (zrow (.int .u8 0) ((u.2.1 + 9) * 1)) 5)).heap.size = w.heap.size + 1 := Array.size_push _
  generalize hw : w.alloc (.cells (zrow (.int .u8 0) ((u.2.1 + 9) * 1)) 5) = w1 at ho fa hsz
  have hu1 : Sl8 w1 u zs := hu.fr2 fa (by simp)
  obtain ⟨i0, hi0⟩ : ∃ i, Try.prog.info? 5 = some i ∧ i.size = 1 := by
    have h : (Try.prog.info? 5).map (fun i => i.size) = some 1 := by kernel_rfl
    cases h2 : Try.prog.info? 5 with
    | none => rw [h2] at h; cases h
    | some i => rw [h2] at h; exact ⟨i, rfl, by simpa using h⟩
  have hmin : Nat.min u.2.1 u.2.1 = zs.length := by rw [hlu]; exact Nat.min_self _
  obtain ⟨w2, e2, o2, f2⟩ := callB_copy (P := Try.prog) (tx := 23) (ty := 3) (consts := #[false, false]) Try.underlying23 hi0.1 hi0.2 ho (x := .slice u.1 u.2.1 u.2.2) (m := u.2.1) (news := zs.map (Value.int .u8)) rfl (by rw [hmin]; simp) (by
    rw [hmin]
    have := SlI.firstCells (P := Try.prog) (w' := w1) hu1 (Nat.le_refl zs.length) (fun _ _ h => h)
    rwa [List.take_length] at this) (by simp)
  have hd : (zs.map (Value.int .u8) ++ (List.replicate u.2.1 (Value.int .u8 0)).drop (zs.map (Value.int .u8)).length) = zs.map (Value.int .u8) := by simp [hlu]
  rw [hd] at o2
  refine ⟨(some ⟨w.heap.size, 0, none⟩, u.2.1, u.2.1 + 9), w2, g11_call ?_, o2, rfl, ?_, ?_⟩
  · have hcond : 0 ≤ (u.2.1 : Int) ∧ (u.2.1 : Int) ≤ ((u.2.1 + 9 : Nat) : Int) ∧ ((u.2.1 + 9 : Nat) : Int) < 9223372036854775808 ∧ ((1 : Nat) : Int) * ((u.2.1 + 9 : Nat) : Int) ≤ 2 ^ 48 ∧ (0 : Nat) < 1 := by
      refine ⟨by omega, by omega, by omega, ?_, by omega⟩
      have : (2 : Int) ^ 48 = 281474976710656 := by decide
      rw [this]; omega
    unfold g11
    rw [hc, if_pos hcond]
    simp only [Int.toNat_natCast]
    rw [hw]
    simp only at e2
    simp only [e2, Option.bind_some, asP_pointer, asB_bool, asI_int, asS_string, asSl_slice, asM_map, asTup0, asTup1, asTup2, asTup3, asTup4, asTup5, getD0, getD1, getD2, getD3, getD4, Bool.not_true, Bool.not_false, Bool.false_eq_true, Bool.true_eq_false, ↓reduceIte, decide_true, decide_false, Option.isNone_some, Option.isNone_none, Option.isSome_some, Option.isSome_none, beq_self_eq_true, bne_self_eq_false, Bool.and_true, Bool.true_and, Bool.and_false, Bool.false_and, not_true_eq_false, not_false_eq_true]
  · have := f2.size; omega
  · refine (fa.nil.trans f2).mono ?_
    intro y hy hlt
    simp [blkOf] at hy; omega
end
end Go.Proofs.Ytakcmfbkknaehaa
