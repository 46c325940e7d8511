/-
  ProdP: lemmas on what Go functions of this seat come to (for whatever arguments, as each says). No condition but those that stand in each lemma.
-/
import Derived.Test.YtliakpomlkgpnaaProdN
import Derived.Test.YtliakpomlkgpnaaProdO
namespace Go.Proofs.Ytliakpomlkgpnaa
open Go Go.Ev
set_option maxRecDepth 100000
set_option linter.unusedVariables false
set_option linter.unusedSimpArgs false

theorem size18 {b : BV} (w : World) (hb : b.vs.length = b.q.2.1) : callF Try.prog 18 #[b.arg] w = some (.int .i64 (b.sz : Int), w.alloc (.cells #[.int .i64 b.base, .int .i64 b.ep, .int .u64 b.pid, .int .i64 b.pe, .int .i64 b.seq, .bool b.txn, .bool b.con, .bool b.com, .slice b.q.1 b.q.2.1 b.q.2.2] 30)) := by
  obtain ⟨s1, f1⟩ := spill w b
  have h := cs9 s1
  refine g18_call (u0c0 := b.base) (u0c1 := b.ep) (u0c2 := b.pid) (u0c3 := b.pe) (u0c4 := b.seq) (u0c5 := b.txn) (u0c6 := b.con) (u0c7 := b.com) (u0c8 := b.q) ?_
  obtain ⟨v, hv⟩ : ∃ v, w.alloc (.cells #[.int .i64 b.base, .int .i64 b.ep, .int .u64 b.pid, .int .i64 b.pe, .int .i64 b.seq, .bool b.txn, .bool b.con, .bool b.com, .slice b.q.1 b.q.2.1 b.q.2.2] 30) = v := ⟨_, rfl⟩
  rw [hv] at h ⊢
  unfold g18
  simp only [hv, addr_add, Nat.zero_add, h.c6, h.c8, obs, asP_pointer, asB_bool, asI_int, asS_string, asSl_slice, asM_map, asTup0, asTup1, asTup2, asTup3, asTup4, asTup5, asTup6, asTup7, asTup8, asTup9, getD0, getD1, getD2, getD3, getD4, getD5, getD6, getD7, getD8, getD9, getD10, getD11, Bool.not_true, Bool.not_false, Bool.false_eq_true, Bool.true_eq_false, ↓reduceIte, decide_true, decide_false, Option.isNone_some, Option.isNone_none, Option.isSome_some, Option.isSome_none, beq_self_eq_true, bne_self_eq_false, Bool.and_true, Bool.true_and, Bool.and_false, Bool.false_and, not_true_eq_false, not_false_eq_true]
  unfold BV.sz
  cases b.con <;> simp [hb]

/-- no producer is remembered by more than five batches -/
def Five (A : List (Int × PV)) : Prop := ∀ v ∈ A, v.2.2.2.1.length ≤ 5

theorem kups_mem {K V : Type} [DecidableEq K] {A : List (K × V)} {n : K} {g : Option V → V} {e : K × V} (h : e ∈ kups A n g) : e ∈ A ∨ e = (n, g (kget A n)) := by
  induction A with
  | nil => right; simpa [kups, kget_nil] using h
  | cons a A ih =>
    by_cases hn : n = a.1
    · simp only [kups, hn, if_true, List.mem_cons] at h
      rcases h with h | h
      · right; rw [h, kget_cons, if_pos hn, hn]
      · left; simp [h]
    · simp only [kups, hn, if_false, List.mem_cons] at h
      rcases h with h | h
      · left; simp [h]
      · rcases ih h with h | h
        · left; simp [h]
        · right; rw [kget_cons, if_neg hn]; exact h

theorem stepV_five {b : BV} {v : PV} (h : v.2.2.1.length ≤ 5) : (stepV b v).2.2.1.length ≤ 5 := by
  unfold stepV
  split
  · exact h
  · show (cut5 (v.2.2.1 ++ [(b.seq, (b.sz : Int), b.base)])).length ≤ 5
    unfold cut5
    split
    · rw [List.length_drop, List.length_append]; simp; omega
    · omega
theorem oldV_five {b : BV} {v : PV} (h : v.2.2.1.length ≤ 5) : (oldV b v).2.2.1.length ≤ 5 := by
  unfold oldV; split
  · simp
  · exact h
theorem kget_mem {K V : Type} [DecidableEq K] {A : List (K × V)} {n : K} {v : V} (h : kget A n = some v) : (n, v) ∈ A := by
  induction A with
  | nil => simp [kget_nil] at h
  | cons a A ih =>
    rw [kget_cons] at h
    by_cases hn : n = a.1
    · rw [if_pos hn] at h; cases h; rw [hn]; simp
    · rw [if_neg hn] at h; exact List.mem_cons_of_mem _ (ih h)

theorem apA_five {A : List (Int × PV)} {abl : List Sn} {b : BV} (h : Five A) : Five (apA A abl b).1 := by
  unfold apA
  split
  · exact h
  · intro v hv
    rcases kups_mem hv with hv | hv
    · exact h v hv
    · rw [hv]
      apply stepV_five
      apply oldV_five
      cases hk : kget A b.pid with
      | none => simp
      | some u => exact h _ (kget_mem hk)

theorem apA_abl {A : List (Int × PV)} {abl : List Sn} {b : BV} : (apA A abl b).2.length ≤ abl.length + 1 := by
  unfold apA stepB
  split
  · simp
  · split <;> simp

/-- a log as the table lets it grow: the table, the aborted, the log, its end -/
abbrev Ly := List (Int × PV) × List Sn × List BV × Int
def layStep (s : Ly) (b : BV) : Ly :=
  let b' := { b with base := s.2.2.2 }
  if (chkA s.1 b').2.2 = 0 ∧ (chkA s.1 b').2.1 = false then ((apA s.1 s.2.1 b').1, (apA s.1 s.2.1 b').2, s.2.2.1 ++ [b'], IntKind.i64.wrap (s.2.2.2 + (b'.sz : Int))) else s
def lay (l : List BV) : Ly := l.foldl layStep ([], [], [], 0)

def logCs (l : List BV) : List Value := (l.map BV.cs).flatten
theorem logCs_len (l : List BV) : (logCs l).length = 9 * l.length := by
  induction l with
  | nil => rfl
  | cons s l ih => simp only [logCs, List.map_cons, List.flatten_cons, List.length_append, List.length_cons] at ih ⊢; rw [ih]; simp [BV.cs]; omega
end Go.Proofs.Ytliakpomlkgpnaa
