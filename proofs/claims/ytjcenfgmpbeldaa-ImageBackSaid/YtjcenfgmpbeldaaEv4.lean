/-
  An evaluator of the code of the model, in Option, and the proof that what it answers is what a call comes to, for whatever program: part Ev4. No condition.
-/
import Derived.Test.YtjcenfgmpbeldaaEv3
import Derived.Laws.Small
import Derived.Laws.Pointers
namespace Go.Ev
open Go
section
variable {β : Type} {P : Program} {w : World} {r : β}

def Ok (x : Option (Value × World)) (K : Value → World → Option β) (r : β) : Prop := ∃ v w', x = some (v, w') ∧ K v w' = some r

def intSem (op : BinOp) (k : IntKind) (a b : Int) : Sem Value :=
  match op with
    | .add | .sub | .mul => Op.intArith op k a b
    | .quo | .rem => Op.intDiv op k a b
    | .and | .or | .xor | .andNot => Op.intBits op k a b
    | _ => Op.intCmp op a b

theorem binI_ok {op : BinOp} {k : IntKind} {a b : Int} {K : Value → Option β} (h : binI op k a b K = some r) :
    ∃ v, (intSem op k a b).run P w = .ok v w ∧ K v = some r := by
  cases op <;> simp only [binI] at h <;> try (cases h; done)
  case quo => split at h; · cases h
              · rename_i hb; exact ⟨_, by simp [intSem, Op.intDiv, hb], h⟩
  case rem => split at h; · cases h
              · rename_i hb; exact ⟨_, by simp [intSem, Op.intDiv, hb], h⟩
  all_goals first
    | exact ⟨_, rfl, h⟩

theorem binOp_int {op : BinOp} {t : TypeId} {k : IntKind} {a b : Int} (h1 : op ≠ .shl) (h2 : op ≠ .shr) :
    binOp op t (.int k a) (.int k b) = intSem op k a b := by
  cases op <;> first | contradiction | simp [binOp, intSem]

theorem run_eqGuard_int {op : BinOp} {t : TypeId} {xo yo : Operand} {k k' : IntKind} {a b : Int} :
    (eqGuard op t xo yo (.int k a) (.int k' b)).run P w = .ok () w := by
  cases op <;> rfl

theorem shI_ok {op : BinOp} {k yk : IntKind} {a b : Int} {K : Value → Option β} (h : shI op k a b K = some r) :
    ∃ v, (Op.shift op k a yk b).run P w = .ok v w ∧ K v = some r := by
  unfold shI at h
  split at h
  · cases h
  · rename_i hb
    cases op <;> simp only at h <;> first | (cases h; done) | exact ⟨_, by simp [Op.shift, hb], h⟩

theorem run_guard_binOp {op : BinOp} {t : TypeId} {xo yo : Operand} {x y v : Value} {w' : World}
    (h1 : (eqGuard op t xo yo x y).run P w = .ok () w) (h2 : (binOp op t x y).run P w = .ok v w') :
    (do eqGuard op t xo yo x y; binOp op t x y : Sem Value).run P w = .ok v w' := by
  simp [h1, h2]

theorem slice_nil {d : Nat} {t e : TypeId} {a : Option Addr} {n c n' c' : Nat} (h : P.underlying t = some (.slice e)) :
    (Op.equalIn (d + 1) t (.slice a n c) (.slice none n' c')).run P w = .ok a.isNone w := by
  cases a <;> simp [Op.equalIn, run_underlying h]

theorem slice_nil_eql {t e : TypeId} {a : Option Addr} {n c n' c' : Nat} (h : P.underlying t = some (.slice e)) :
    (binOp .eql t (.slice a n c) (.slice none n' c')).run P w = .ok (.bool a.isNone) w := by
  have := slice_nil (P := P) (w := w) (d := 9999) (t := t) (a := a) (n := n) (c := c) (n' := n') (c' := c') h
  simp only [binOp]
  simp [Op.equal, Op.maxDepth, this]

theorem slice_nil_neq {t e : TypeId} {a : Option Addr} {n c n' c' : Nat} (h : P.underlying t = some (.slice e)) :
    (binOp .neq t (.slice a n c) (.slice none n' c')).run P w = .ok (.bool (!a.isNone)) w := by
  have := slice_nil (P := P) (w := w) (d := 9999) (t := t) (a := a) (n := n) (c := c) (n' := n') (c' := c') h
  simp only [binOp]
  simp [Op.equal, Op.maxDepth, this]

theorem evBin_ok {op : BinOp} {t : TypeId} {xo yo : Operand} {x y : Value} {K : Value → World → Option β} (h : evBin P op t xo yo x y w K = some r) :
    ∃ v w', (do eqGuard op t xo yo x y; binOp op t x y : Sem Value).run P w = .ok v w' ∧ K v w' = some r := by
  unfold evBin at h
  split at h
  · rename_i k a yk b
    split at h
    · obtain ⟨v, h1, h2⟩ := shI_ok (P := P) (w := w) (yk := yk) h
      exact ⟨v, w, run_guard_binOp run_eqGuard_int (by simpa [binOp] using h1), h2⟩
    · obtain ⟨v, h1, h2⟩ := shI_ok (P := P) (w := w) (yk := yk) h
      exact ⟨v, w, run_guard_binOp run_eqGuard_int (by simpa [binOp] using h1), h2⟩
    · rename_i n1 n2
      split at h
      · rename_i hk
        subst hk
        obtain ⟨v, h1, h2⟩ := binI_ok (P := P) (w := w) h
        exact ⟨v, w, run_guard_binOp run_eqGuard_int (by rw [binOp_int (by simpa using n1) (by simpa using n2)]; exact h1), h2⟩
      · cases h
  · rename_i a b
    cases op <;> simp only [binS] at h <;> try (cases h; done)
    case add =>
      split at h
      · cases h
      · rename_i hb
        refine ⟨_, w, run_guard_binOp rfl ?_, h⟩
        simp only [binOp, Op.stringOp]
        rw [if_neg hb]; rfl
    all_goals exact ⟨_, w, run_guard_binOp rfl rfl, h⟩
  · rename_i a b
    split at h
    · rename_i ht
      exact ⟨_, w, run_guard_binOp rfl (run_eql_bool w t a b ht), h⟩
    · rename_i ht
      exact ⟨_, w, run_guard_binOp rfl (run_neq_bool w t a b ht), h⟩
    · cases h
  · rename_i a
    split at h
    · rename_i e ht
      exact ⟨_, w, run_guard_binOp (by cases a <;> rfl) (run_eql_pointer_nil w t a (by simp [Program.pointee, ht])), h⟩
    · rename_i e ht
      exact ⟨_, w, run_guard_binOp (by cases a <;> rfl) (run_neq_pointer_nil w t a (by simp [Program.pointee, ht])), h⟩
    · cases h
  · rename_i a n c n' c'
    split at h
    · rename_i e ht
      exact ⟨_, w, run_guard_binOp (by cases a <;> rfl) (slice_nil_eql ht), h⟩
    · rename_i e ht
      exact ⟨_, w, run_guard_binOp (by cases a <;> rfl) (slice_nil_neq ht), h⟩
    · cases h
  · cases hs : semR P (do eqGuard op t xo yo x y; binOp op t x y) w with
    | none => rw [hs] at h; cases h
    | some q =>
      rw [hs] at h
      simp only [Option.bind_some] at h
      obtain ⟨v, w'⟩ := q
      refine ⟨v, w', semR_ok hs, ?_⟩
      cases v <;> simp only [asB, Option.bind_none, Option.bind_some] at h <;> first | exact h | cases h

theorem unI_ok {op : UnOp} {x : Value} {K : Value → Option β} (h : unI op x K = some r) : ∃ v, (Op.unary op x).run P w = .ok v w ∧ K v = some r := by
  unfold unI at h
  split at h
  · exact ⟨_, rfl, h⟩
  · rename_i k n
    obtain ⟨v, h1, h2⟩ := binI_ok (P := P) (w := w) h
    exact ⟨v, h1, h2⟩
  · exact ⟨_, rfl, h⟩
  · cases h

theorem bind_some_iff' {α γ : Type} {x : Option α} {f : α → Option γ} {c : γ} (h : x.bind f = some c) : ∃ a, x = some a ∧ f a = some c := by
  cases x with
  | none => cases h
  | some a => exact ⟨a, rfl, h⟩

theorem evConv_ok {s d : TypeId} {x : Value} {K : Value → World → Option β} (h : evConv P s d x w K = some r) :
    ∃ v w', (convert s d x).run P w = .ok v w' ∧ K v w' = some r := by
  unfold evConv at h
  split at h
  · rename_i h1 h2
    refine ⟨_, w, ?_, h⟩
    simp only [convert, Sem.run_bind, run_underlying h1, run_underlying h2, Result.andThen_ok]
    rfl
  · obtain ⟨q, hs, h2⟩ := bind_some_iff' h
    exact ⟨q.1, q.2, semR_ok hs, castV_ok h2⟩

theorem loadT_ok {t : TypeId} {a : Addr} {K : Value → Option β} (h : loadT P t w a K = some r) :
    ∃ v, (Instr.loadAt t (.pointer (some a))).run P w = .ok v w ∧ K v = some r := by
  unfold loadT at h
  split at h
  · rename_i fs ht
    obtain ⟨i, hi⟩ := info_of_underlying ht
    rw [hi] at h
    simp only [Option.map_some, Option.getD_some] at h
    obtain ⟨l, h1, h2⟩ := bind_some_iff' h
    split at h2
    · rename_i hl
      have h3 := castList_ok (by rw [Nat.zero_add, hl]; exact (ldN_spec h1).1) h2
      refine ⟨.agg l.toArray, ?_, by simpa using h3⟩
      simp [Instr.loadAt, Instr.sureAddr, loadVar, run_isAgg ht, run_sizeOf hi, run_ldN h1]
    · cases h2
  · rename_i n e ht
    obtain ⟨i, hi⟩ := info_of_underlying ht
    rw [hi] at h
    simp only [Option.map_some, Option.getD_some] at h
    obtain ⟨l, h1, h2⟩ := bind_some_iff' h
    refine ⟨.agg l.toArray, ?_, h2⟩
    simp [Instr.loadAt, Instr.sureAddr, loadVar, run_isAgg ht, run_sizeOf hi, run_ldN h1]
  · rename_i d n1 n2 ht
    obtain ⟨v, h1, h2⟩ := bind_some_iff' h
    refine ⟨v, ?_, castLeaf_ok h2⟩
    have hag : (isAgg t).run P w = .ok false w := by
      rw [run_isAgg ht]
      cases d <;> first | rfl | (exfalso; first | exact n1 _ rfl | exact n2 _ _ rfl)
    simp [Instr.loadAt, Instr.sureAddr, loadVar, hag, h1]
  · cases h

theorem storeT_ok {t : TypeId} {a : Addr} {x : Value} {K : World → Option β} (h : storeT P t w a x K = some r) :
    ∃ w', (Instr.storeAt t (.pointer (some a)) x).run P w = .ok () w' ∧ K w' = some r := by
  unfold storeT at h
  split at h
  · cases h
  · rename_i i hi
    split at h
    · rename_i cs
      split at h
      · rename_i hsz
        obtain ⟨w', h1, h2⟩ := bind_some_iff' h
        refine ⟨w', ?_, h2⟩
        simp [Instr.storeAt, Instr.sureAddr, storeVar, run_sizeOf hi, Value.cells, hsz, run_stL h1]
      · cases h
    · rename_i hx
      split at h
      · rename_i hsz
        obtain ⟨w', h1, h2⟩ := bind_some_iff' h
        refine ⟨w', ?_, h2⟩
        have hc : x.cells = #[x] := by cases x <;> first | rfl | (exfalso; exact hx _ rfl)
        have hs := run_st1 (P := P) h1
        simp only [Instr.storeAt, Instr.sureAddr, storeVar, Sem.run_bind, run_sizeOf hi, hc, hsz, Sem.run_pure, Result.andThen_ok]
        simp only [List.size_toArray, List.length_cons, List.length_nil, ne_eq, Nat.zero_add, not_true_eq_false, if_false, storeCells, Sem.run_bind]
        have : a.add 0 = a := rfl
        rw [this, hs]
        rfl
      · cases h

theorem evNil_ok {x : Value} {ρ : Operand → Value} {xo : Operand} {o : Oper} {K : Value → World → Option β} (ho : o.op = .nilCheck xo) (hx : ρ xo = x)
    (h : evNil x w K = some r) : Ok (runOp P ρ o w) K r := by
  unfold evNil at h
  unfold Ok runOp
  split at h
  · obtain ⟨a, rfl, h2⟩ := bind_some_iff' h
    exact ⟨_, w, by simp [execOp, ho, hx, nextR], h2⟩
  · exact ⟨_, w, by simp [execOp, ho, hx, nextR], h⟩
  · cases h

theorem sizeT_of {t : TypeId} {i : TypeInfo} (h : P.info? t = some i) : sizeT P t = i.size := by simp [sizeT, h]

theorem evFieldA_ok {s : TypeId} {x : Value} {f : Nat} {K : Value → Option β} (h : evFieldA P s x f K = some r) :
    ∃ v, (Instr.fieldAt s x f).run P w = .ok v w ∧ K v = some r := by
  unfold evFieldA at h
  split at h
  · rename_i fs a hs
    split at h
    · rename_i fd hf
      split at h
      · cases h
      · rename_i hz
        split at h
        · rename_i i hi
          refine ⟨_, ?_, h⟩
          rw [sizeT_of hi] at hz
          simp [Instr.fieldAt, run_underlying hs, hf, Instr.sureAddr, fieldPlace, run_sizeOf hi, hz]
        · cases h
    · cases h
  · cases h

theorem evField_ok {s : TypeId} {x : Value} {f : Nat} {K : Value → Option β} (h : evField P s x f K = some r) :
    ∃ v, (Instr.field s x f).run P w = .ok v w ∧ K v = some r := by
  unfold evField at h
  split at h
  · rename_i fs cs hs
    split at h
    · rename_i fd hf
      split at h
      · rename_i g i ht hi
        refine ⟨_, ?_, h⟩
        simp [Instr.field, run_underlying hs, hf, Go.asAgg, part, run_isAgg ht, run_sizeOf hi]
      · rename_i g n i ht hi
        refine ⟨_, ?_, h⟩
        simp [Instr.field, run_underlying hs, hf, Go.asAgg, part, run_isAgg ht, run_sizeOf hi]
      · rename_i d i n1 n2 ht hi
        obtain ⟨v, h1, h2⟩ := bind_some_iff' h
        refine ⟨v, ?_, h2⟩
        have hag : ∀ w : World, (isAgg fd.type).run P w = .ok false w := by
          intro w
          rw [run_isAgg ht]
          cases d <;> first | rfl | (exfalso; first | exact n1 _ rfl | exact n2 _ _ rfl)
        simp [Instr.field, run_underlying hs, hf, Go.asAgg, part, hag, h1]
      · cases h
    · cases h
  · cases h

theorem idxA_ok {base : Option Addr} {len size : Nat} {i : Int} {a : Addr} (h : idxA base len size i = some a) :
    ∃ b, base = some b ∧ 0 ≤ i ∧ i < len ∧ a = b.add (i.toNat * size) := by
  unfold idxA at h
  split at h
  · rename_i hc
    obtain ⟨b, rfl, h2⟩ := bind_some_iff' h
    simp only [Option.some.injEq] at h2
    exact ⟨b, rfl, hc.1, hc.2, h2.symm⟩
  · cases h

theorem evIdxA_ok {t : TypeId} {x i : Value} {K : Value → Option β} (h : evIdxA P t x i K = some r) :
    ∃ v, (Instr.indexAt t x i).run P w = .ok v w ∧ K v = some r := by
  unfold evIdxA at h
  split at h
  · rename_i e base len cp k n ht
    split at h
    · rename_i inf hi
      obtain ⟨a, h1, h2⟩ := bind_some_iff' h
      obtain ⟨b, rfl, p1, p2, rfl⟩ := idxA_ok h1
      refine ⟨_, ?_, h2⟩
      simp [Instr.indexAt, asIntOf, run_underlying ht, p1, p2, run_sizeOf hi]
    · cases h
  · rename_i len e a0 k n ht
    split at h
    · rename_i inf hi
      obtain ⟨a, h1, h2⟩ := bind_some_iff' h
      obtain ⟨b, hb, p1, p2, rfl⟩ := idxA_ok h1
      simp only [Option.some.injEq] at hb
      subst hb
      refine ⟨_, ?_, h2⟩
      simp [Instr.indexAt, asIntOf, run_underlying ht, p1, p2, run_sizeOf hi, Instr.sureAddr]
    · cases h
  · cases h

theorem evIndex_ok {t : TypeId} {x i : Value} {K : Value → World → Option β} (h : evIndex P t x i w K = some r) :
    ∃ v w', (Instr.index t x i).run P w = .ok v w' ∧ K v w' = some r := by
  unfold evIndex at h
  split at h
  · rename_i s k n ht
    obtain ⟨c, h1, h2⟩ := bind_some_iff' h
    refine ⟨_, w, ?_, h2⟩
    unfold strIdx at h1
    split at h1
    · rename_i h0
      obtain ⟨b, h3, h4⟩ := bind_some_iff' h1
      simp only [Option.some.injEq] at h4
      simp [Instr.index, asIntOf, run_underlying ht, h0, h3, h4]
    · cases h1
  · rename_i n e cs ht
    obtain ⟨q, h1, h2⟩ := bind_some_iff' h
    exact ⟨q.1, q.2, semR_ok h1, castV_ok h2⟩
  · cases h
end
end Go.Ev
