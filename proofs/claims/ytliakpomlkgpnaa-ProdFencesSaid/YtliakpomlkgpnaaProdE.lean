/-
  ProdE: lemmas on what Go functions of this seat come to (for whatever arguments, as each says). No condition but those that stand in each lemma.
-/
import Derived.Test.YtliakpomlkgpnaaProdD
import Derived.Laws.StructEq
namespace Go.Proofs.Ytliakpomlkgpnaa
open Go Go.Ev
set_option maxRecDepth 100000
set_option linter.unusedVariables false
set_option linter.unusedSimpArgs false

theorem part_int {P : Program} (w : World) (t : TypeId) (cs : Array Value) (off : Nat) {v : Value} {k : IntKind} (ht : P.underlying t = some (.int k)) (hv : cs[off]? = some v) : (part t cs off).run P w = .ok v w := by
  simp [part, isAgg, run_underlying ht, hv]

theorem key_run (w : World) (a b c d : Int) : (Op.eqFields 9999 #[.int .i64 a, .int .i64 b] #[.int .i64 c, .int .i64 d] (Try.prog.fieldsOf 57).toList).run Try.prog w = .ok (a == c && b == d) w := by
  have hf : (Try.prog.fieldsOf 57).toList.map (fun f => (f.name, f.offset, f.type)) = [("seq", 0, 3), ("size", 1, 3)] := by kernel_rfl
  obtain ⟨l, hl⟩ : ∃ l, (Try.prog.fieldsOf 57).toList = l := ⟨_, rfl⟩
  rw [hl] at hf ⊢
  match l, hf with
  | [f, g], hf =>
    simp only [List.map_cons, List.map_nil, List.cons.injEq, Prod.mk.injEq, and_true] at hf
    obtain ⟨⟨n1, o1, t1⟩, n2, o2, t2⟩ := hf
    have u3 : Try.prog.underlying 3 = some (.int .i64) := by kernel_rfl
    have p1 : ∀ (cs : Array Value) (v : Value), cs[0]? = some v → (part 3 cs 0).run Try.prog w = .ok v w := fun cs v h => part_int w 3 cs 0 u3 h
    have p2 : ∀ (cs : Array Value) (v : Value), cs[1]? = some v → (part 3 cs 1).run Try.prog w = .ok v w := fun cs v h => part_int w 3 cs 1 u3 h
    have q : ∀ x y, (Op.equalIn 9999 3 (.int .i64 x) (.int .i64 y)).run Try.prog w = .ok (x == y) w := fun x y => run_equalIn_int w 9998 3 .i64 .i64 x y u3
    have hn1 : f.name ≠ "_" := by rw [n1]; decide
    have hn2 : g.name ≠ "_" := by rw [n2]; decide
    simp only [Op.eqFields, hn1, hn2, ne_eq, not_false_eq_true, if_true, o1, o2, t1, t2, Sem.run_bind]
    rw [p1 _ (.int .i64 a) rfl, Result.andThen_ok, p1 _ (.int .i64 c) rfl, Result.andThen_ok, q, Result.andThen_ok]
    cases h : (a == c)
    · simp
    · simp only [Bool.not_true, Bool.false_eq_true, if_false, Sem.run_bind]
      rw [p2 _ (.int .i64 b) rfl, Result.andThen_ok, p2 _ (.int .i64 d) rfl, Result.andThen_ok, q, Result.andThen_ok]
      cases h : (b == d) <;> simp
theorem key_eq (w : World) (a b c d : Int) : semR Try.prog (do eqGuard .eql 57 (.tmp 69) (.tmp 74) (.agg #[.int .i64 a, .int .i64 b]) (.agg #[.int .i64 c, .int .i64 d]); binOp .eql 57 (.agg #[.int .i64 a, .int .i64 b]) (.agg #[.int .i64 c, .int .i64 d])) w = some (.bool (a == c && b == d), w) := by
  have h1 : (eqGuard .eql 57 (.tmp 69) (.tmp 74) (.agg #[.int .i64 a, .int .i64 b]) (.agg #[.int .i64 c, .int .i64 d])).run Try.prog w = .ok () w := run_eqGuard_agg w _ _ _ _ _ _ (by kernel_rfl)
  have h2 : (binOp .eql 57 (.agg #[.int .i64 a, .int .i64 b]) (.agg #[.int .i64 c, .int .i64 d])).run Try.prog w = .ok (.bool (a == c && b == d)) w := by
    rw [run_eql_struct, run_equalIn_struct w 9999 57 _ _ (by kernel_rfl) (by kernel_rfl), key_run]
    rfl
  unfold semR
  rw [run_guard_binOp h1 h2]
end Go.Proofs.Ytliakpomlkgpnaa
