/-
  ProdFenA: lemmas on what Go functions of this seat come to (for whatever arguments, as each says). No condition but those that stand in each lemma.
-/
import Derived.Test.YtliakpomlkgpnaaProdR
namespace Go.Proofs.Ytliakpomlkgpnaa
open Go Go.Ev
set_option maxRecDepth 100000
set_option linter.unusedVariables false
set_option linter.unusedSimpArgs false
set_option linter.unusedSimpArgs false

theorem chkA_fenced {A : List (Int × PV)} {b : BV} (h : chkB b = 0) (hp : ¬ b.pid = 0) : ((chkA A b).2.2 = 10 ↔ ∃ v, kget A b.pid = some v ∧ b.pe < v.1) ∧ ((chkA A b).2.2 = 0 ∨ (chkA A b).2.1 = false ∧ (chkA A b).1 = 0) := by
  unfold chkA
  rw [if_neg (by simp [h]), if_neg hp]
  cases hk : kget A b.pid with
  | none => simp only; split <;> (try split) <;> simp
  | some v =>
    simp only
    by_cases h1 : b.pe < v.1
    · simp [h1]
    · simp only [h1, if_false]
      split
      · simp [h1]
      · split
        · split <;> simp [h1]
        · cases hf : v.2.2.1.find? (isB b) with
          | none => simp only; split <;> simp [h1]
          | some s => simp [h1]


def fenRes (pid pe k1 n39 n41 : Int) (kb b40 : Bool) : Bool :=
  if (pid == 0) = true then (if (n41 == 0) = true then (if (!b40) = true then n39 == 0 else false) else false)
  else if kb = true then
    (if (!((n41 == 10) == decide (pe < k1))) = true then false else if (n41 == 0) = true then true else if (!b40) = true then n39 == 0 else false)
  else (if (!((n41 == 10) == false)) = true then false else if (n41 == 0) = true then true else if (!b40) = true then n39 == 0 else false)


theorem g5_mid {u0 : Option Addr × Nat × Nat} {c0 c1 c2 c3 c4 : Int} {c5 c6 c7 : Bool} {c8 : Option Addr × Nat × Nat} {W v w1 w2 w3 : World} {p : Option Addr} {q : Option Addr × Nat × Nat} {n : Int}
    (hv : W.alloc (.cells #[.int .i64 c0, .int .i64 c1, .int .u64 c2, .int .i64 c3, .int .i64 c4, .bool c5, .bool c6, .bool c7, .slice c8.1 c8.2.1 c8.2.2] 30) = v)
    (e1 : callF Try.prog 8 #[] v = some (.bool true, w1))
    (e2 : callF Try.prog 9 #[.slice u0.1 u0.2.1 u0.2.2] w1 = some (.tuple #[.pointer p, .slice q.1 q.2.1 q.2.2], w2))
    (l2 : ldN w2 ⟨W.heap.size, 0, none⟩ 0 9 = some [.int .i64 c0, .int .i64 c1, .int .u64 c2, .int .i64 c3, .int .i64 c4, .bool c5, .bool c6, .bool c7, .slice c8.1 c8.2.1 c8.2.2])
    (e3 : callF Try.prog 12 #[.agg #[.int .i64 c0, .int .i64 c1, .int .u64 c2, .int .i64 c3, .int .i64 c4, .bool c5, .bool c6, .bool c7, .slice c8.1 c8.2.1 c8.2.2]] w2 = some (.int .i64 n, w3))
    (hn : (n != 0) = true) : g5 u0 c0 c1 c2 c3 c4 c5 c6 c7 c8 W = some (.bool true, w3) := by
  unfold g5
  rw [hv, e1]
  simp only [asB_bool, Option.bind_some, Bool.not_true, Bool.false_eq_true, if_false, e2, asTup2, getD0, getD1, getD2, getD3, asP_pointer, asSl_slice]
  rw [l2, Option.bind_some]
  simp only [getD0, getD1, getD2, getD3, getD4, getD5, getD6, getD7, getD8, asI_int, asB_bool, asSl_slice, Option.bind_some]
  rw [e3, Option.bind_some]
  simp only [asI_int, Option.bind_some, hn, if_true]

theorem g5_far {u0 : Option Addr × Nat × Nat} {c0 c1 c2 c3 c4 : Int} {c5 c6 c7 : Bool} {c8 : Option Addr × Nat × Nat} {W v w1 w2 w3 w4 w5 : World} {p : Option Addr} {q : Option Addr × Nat × Nat} {n k1 k2 k3 n1 n2 : Int} {kb b40 : Bool}
    (hv : W.alloc (.cells #[.int .i64 c0, .int .i64 c1, .int .u64 c2, .int .i64 c3, .int .i64 c4, .bool c5, .bool c6, .bool c7, .slice c8.1 c8.2.1 c8.2.2] 30) = v)
    (e1 : callF Try.prog 8 #[] v = some (.bool true, w1))
    (e2 : callF Try.prog 9 #[.slice u0.1 u0.2.1 u0.2.2] w1 = some (.tuple #[.pointer p, .slice q.1 q.2.1 q.2.2], w2))
    (l2 : ldN w2 ⟨W.heap.size, 0, none⟩ 0 9 = some [.int .i64 c0, .int .i64 c1, .int .u64 c2, .int .i64 c3, .int .i64 c4, .bool c5, .bool c6, .bool c7, .slice c8.1 c8.2.1 c8.2.2])
    (e3 : callF Try.prog 12 #[.agg #[.int .i64 c0, .int .i64 c1, .int .u64 c2, .int .i64 c3, .int .i64 c4, .bool c5, .bool c6, .bool c7, .slice c8.1 c8.2.1 c8.2.2]] w2 = some (.int .i64 n, w3))
    (hn : (n != 0) = false)
    (f2 : w3.cell? (Addr.add ⟨W.heap.size, 0, none⟩ 2) = some (.int .u64 c2))
    (e4 : callF Try.prog 10 #[.pointer p, .int .u64 c2] w3 = some (.tuple #[.int .i64 k1, .int .i64 k2, .int .i64 k3, .bool kb], w4))
    (l4 : ldN w4 ⟨W.heap.size, 0, none⟩ 0 9 = some [.int .i64 c0, .int .i64 c1, .int .u64 c2, .int .i64 c3, .int .i64 c4, .bool c5, .bool c6, .bool c7, .slice c8.1 c8.2.1 c8.2.2])
    (e5 : callF Try.prog 11 #[.pointer p, .agg #[.int .i64 c0, .int .i64 c1, .int .u64 c2, .int .i64 c3, .int .i64 c4, .bool c5, .bool c6, .bool c7, .slice c8.1 c8.2.1 c8.2.2]] w4 = some (.tuple #[.int .i64 n1, .bool b40, .int .i64 n2], w5))
    (d2 : w5.cell? (Addr.add ⟨W.heap.size, 0, none⟩ 2) = some (.int .u64 c2))
    (d3 : w5.cell? (Addr.add ⟨W.heap.size, 0, none⟩ 3) = some (.int .i64 c3)) : g5 u0 c0 c1 c2 c3 c4 c5 c6 c7 c8 W = some (.bool (fenRes c2 c3 k1 n1 n2 kb b40), w5) := by
  unfold g5
  rw [hv, e1]
  simp only [asB_bool, Option.bind_some, Bool.not_true, Bool.false_eq_true, if_false, e2, asTup2, getD0, getD1, getD2, getD3, asP_pointer, asSl_slice]
  rw [l2, Option.bind_some]
  simp only [getD0, getD1, getD2, getD3, getD4, getD5, getD6, getD7, getD8, asI_int, asB_bool, asSl_slice, Option.bind_some]
  rw [e3, Option.bind_some]
  simp only [asI_int, Option.bind_some, hn, Bool.false_eq_true, if_false]
  rw [f2, Option.bind_some]
  simp only [asI_int, Option.bind_some]
  rw [e4, Option.bind_some, asTup4, Option.bind_some]
  simp only [Option.bind_some, getD0, getD1, getD2, getD3, asI_int, asB_bool]
  rw [l4, Option.bind_some]
  simp only [getD0, getD1, getD2, getD3, getD4, getD5, getD6, getD7, getD8, asI_int, asB_bool, asSl_slice, Option.bind_some]
  rw [e5, Option.bind_some, asTup3, Option.bind_some]
  simp only [Option.bind_some, getD0, getD1, getD2, getD3, asI_int, asB_bool]
  rw [d2, d3]
  simp only [asI_int, Option.bind_some]
  unfold fenRes
  split
  · split
    · split <;> rfl
    · rfl
  · split
    · split
      · rfl
      · split
        · rfl
        · split <;> rfl
    · split
      · rfl
      · split
        · rfl
        · split <;> rfl

end Go.Proofs.Ytliakpomlkgpnaa
