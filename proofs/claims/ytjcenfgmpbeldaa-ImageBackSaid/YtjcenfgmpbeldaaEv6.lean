/-
  An evaluator of the code of the model, in Option, and the proof that what it answers is what a call comes to, for whatever program: part Ev6. No condition.
-/
import Derived.Test.YtjcenfgmpbeldaaEv5
namespace Go.Ev
open Go
section
variable {β : Type} {P : Program} {w : World} {r : β}

theorem nextR_value {ρ : Operand → Value} {o : Oper} {s : Sem Value} (he : execOp ρ o = (do let x ← s; pure (Next.value x)))
    {K : Value → World → Option β} (h : ∃ v w', s.run P w = .ok v w' ∧ K v w' = some r) : Ok (runOp P ρ o w) K r := by
  obtain ⟨v, w', h1, h2⟩ := h
  refine ⟨v, w', ?_, h2⟩
  unfold runOp
  rw [he]
  exact nextR_v h1

theorem nextR_value1 {ρ : Operand → Value} {o : Oper} {s : Sem Value} (he : execOp ρ o = (do let x ← s; pure (Next.value x)))
    {K : Value → World → Option β} (h : ∃ v, s.run P w = .ok v w ∧ K v w = some r) : Ok (runOp P ρ o w) K r :=
  nextR_value he (let ⟨v, a, b⟩ := h; ⟨v, w, a, b⟩)

theorem nextR_unit {ρ : Operand → Value} {o : Oper} {s : Sem Unit} (he : execOp ρ o = (do s; pure Next.skip))
    {K : Value → World → Option β} (h : ∃ w', s.run P w = .ok () w' ∧ K undef w' = some r) : Ok (runOp P ρ o w) K r := by
  obtain ⟨w', h1, h2⟩ := h
  refine ⟨undef, w', ?_, h2⟩
  unfold runOp
  rw [he]
  exact nextR_u h1

theorem semR_bind {s : Sem Value} {K : Value → World → Option β} {f : Value × World → Option β} (h : (semR P s w).bind f = some r)
    (hf : ∀ q, f q = some r → K q.1 q.2 = some r) : ∃ v w', s.run P w = .ok v w' ∧ K v w' = some r := by
  obtain ⟨q, h1, h2⟩ := bind_some_iff' h
  exact ⟨q.1, q.2, semR_ok h1, hf q h2⟩

theorem mLen_ok {t kt e : TypeId} {m : Option Nat} {n : Nat} {ts : Array TypeId} {ty : TypeId} {rest : Array Value} (h0 : ts[0]? = some t) (ht : P.underlying t = some (.map kt e)) (h : mLen w m = some n)
    (ha : rest[0]? = some (.map m)) :
    (Builtin.len_ ts ty rest).run P w = .ok (.int .i64 n) w := by
  unfold mLen at h
  cases m with
  | none =>
    simp only [mEnt, Option.map_some, List.length_nil, Option.some.injEq] at h
    subst h
    simp [Builtin.len_, h0, ha, run_underlying ht, goInt]
  | some r0 =>
    simp only [mEnt] at h
    split at h
    · rename_i es c hr
      simp only [Option.map_some, Option.some.injEq] at h
      subst h
      simp [Builtin.len_, h0, ha, run_underlying ht, goInt, run_getMap hr]
    · cases h

theorem evCall_ok {ρ : Operand → Value} {o : Oper} {c : Call} {K : Value → World → Option β} (ho : o.op = .call c) (h : evCall P ρ c o.type w K = some r) : Ok (runOp P ρ o w) K r := by
  have hrun : runOp P ρ o w = nextR P (Sem.run P (do let d ← resolve ρ c o.type; invoke d.target d.args) w) := by
    unfold runOp execOp
    rw [ho]
  rw [hrun]
  unfold evCall at h
  cases c with
  | mk callee args argTypes =>
  cases callee with
  | value f =>
    simp only at h
    split at h
    · rename_i g first captured hf
      obtain ⟨q, h1, h2⟩ := bind_some_iff' h
      refine ⟨q.1, q.2, ?_, castT_ok h2⟩
      have : Sem.run P (do let d ← resolve ρ { callee := .value f, args := args, argTypes := argTypes } o.type; invoke d.target d.args) w
          = (callFunc g (first ++ args.map ρ ++ captured)).run P w := by
        simp only [resolve, hf, Deferred.ofValue, Sem.run_bind, Sem.run_pure, Result.andThen_ok, invoke]
      rw [this]
      exact h1
    · obtain ⟨q, h1, h2⟩ := bind_some_iff' h
      exact ⟨q.1, q.2, h1, castT_ok h2⟩
  | invoke recv name =>
    simp only at h
    obtain ⟨q, h1, h2⟩ := bind_some_iff' h
    exact ⟨q.1, q.2, h1, castT_ok h2⟩
  | builtin b =>
    have hb : Sem.run P (do let d ← resolve ρ { callee := .builtin b, args := args, argTypes := argTypes } o.type; invoke d.target d.args) w
        = (builtin b argTypes o.type (args.map fun | .const _ => true | _ => false) (args.map ρ)).run P w := by
      simp only [resolve, Sem.run_bind, Sem.run_pure, Result.andThen_ok, invoke]
      rfl
    rw [hb]
    simp only at h
    split at h
    · rename_i a n cp e hargs ht
      have h0 : (args.map ρ)[0]? = some (.slice a n cp) := by
        have := congrArg (fun l => l[0]?) hargs
        simpa using this
      obtain ⟨t, h1, h2⟩ := bind_some_iff' ht
      exact ⟨_, w, by simp [builtin, Builtin.len_, h1, h0, run_underlying h2, nextR, goInt], h⟩
    · rename_i s hargs ht
      have h0 : (args.map ρ)[0]? = some (.string s) := by
        have := congrArg (fun l => l[0]?) hargs
        simpa using this
      obtain ⟨t, h1, h2⟩ := bind_some_iff' ht
      exact ⟨_, w, by simp [builtin, Builtin.len_, h1, h0, run_underlying h2, nextR, goInt], h⟩
    · rename_i m kt e hargs ht
      have h0 : (args.map ρ)[0]? = some (.map m) := by
        have := congrArg (fun l => l[0]?) hargs
        simpa using this
      obtain ⟨t, h1, h2⟩ := bind_some_iff' ht
      obtain ⟨n, h3, h4⟩ := bind_some_iff' h
      refine ⟨_, w, ?_, h4⟩
      simp [builtin, mLen_ok h1 h2 h3 h0, nextR]
    · rename_i x n e hargs ht
      have h0 : (args.map ρ)[0]? = some x := by
        have := congrArg (fun l => l[0]?) hargs
        simpa using this
      obtain ⟨t, h1, h2⟩ := bind_some_iff' ht
      refine ⟨_, w, ?_, h⟩
      simp [builtin, Builtin.len_, h1, h0, run_underlying h2, nextR, goInt]
    · rename_i a m n e hargs ht
      have h0 : (args.map ρ)[0]? = some (.slice a m n) := by
        have := congrArg (fun l => l[0]?) hargs
        simpa using this
      obtain ⟨t, h1, h2⟩ := bind_some_iff' ht
      exact ⟨_, w, by simp [builtin, Builtin.cap_, h1, h0, run_underlying h2, nextR, goInt], h⟩
    · rename_i k x k' y hargs
      have h0 : args.map ρ = #[.int k x, .int k' y] := by
        apply Array.ext'; simpa using hargs
      exact ⟨_, w, by simp [builtin, h0, run_min_int2, nextR], h⟩
    · rename_i k x k' y hargs
      have h0 : args.map ρ = #[.int k x, .int k' y] := by
        apply Array.ext'; simpa using hargs
      exact ⟨_, w, by simp [builtin, h0, run_max_int2, nextR], h⟩
    · obtain ⟨q, h1, h2⟩ := bind_some_iff' h
      exact ⟨q.1, q.2, h1, castT_ok h2⟩

theorem evOp_ok {ρ : Operand → Value} {o : Oper} {K : Value → World → Option β} (h : evOp P ρ o.op o.type w K = some r) : Ok (runOp P ρ o w) K r := by
  cases ho : o.op <;> rw [ho] at h <;> simp only [evOp] at h <;> try (cases h; done)
  case move x => exact ⟨_, w, by simp [runOp, execOp, ho, nextR], h⟩
  case assign x => exact ⟨_, w, by simp [runOp, execOp, ho, nextR], h⟩
  case pick c a b =>
    split at h
    · rename_i t hc
      split at h
      · rename_i ht; subst ht; exact ⟨_, w, by simp [runOp, execOp, ho, hc, asBool, nextR], h⟩
      · rename_i ht
        have : t = false := by simpa using ht
        subst this; exact ⟨_, w, by simp [runOp, execOp, ho, hc, asBool, nextR], h⟩
    · cases h
  case alloc e =>
    split at h
    · rename_i z hz
      refine nextR_value (ρ := ρ) (o := o) (s := Instr.alloc e true (.tuple #[])) (by unfold execOp; rw [ho]; try rfl) ⟨_, _, ?_, h⟩
      simp [Instr.alloc, run_zeroValue hz, newVar, newRow]
    · cases h
  case box e x =>
    refine nextR_value (ρ := ρ) (o := o) (s := Instr.box e (ρ x)) (by unfold execOp; rw [ho]; try rfl) ⟨_, _, ?_, h⟩
    simp [Instr.box, newVar, newRow]
  case build t parts => exact nextR_value1 (ρ := ρ) (o := o) (s := Instr.build t (parts.map fun (i, x) => (i, ρ x))) (by unfold execOp; rw [ho]; try rfl) (evBuild_ok h)
  case buildSlice t n parts => exact nextR_value (ρ := ρ) (o := o) (s := Instr.buildSlice t n (parts.map fun (i, x) => (i, ρ x))) (by unfold execOp; rw [ho]; try rfl) (evBuildS_ok h)
  case load t a =>
    split at h
    · rename_i ad ha
      refine nextR_value1 (ρ := ρ) (o := o) (s := Instr.loadAt t (ρ a)) (by unfold execOp; rw [ho]; try rfl) ?_
      rw [ha]; exact loadT_ok h
    · cases h
  case store t a x =>
    split at h
    · rename_i ad ha
      refine nextR_unit (ρ := ρ) (o := o) (s := Instr.storeAt t (ρ a) (ρ x)) (by unfold execOp; rw [ho]; try rfl) ?_
      rw [ha]; exact storeT_ok h
    · cases h
  case nilCheck x => exact evNil_ok ho rfl h
  case binOp op t x y yt => exact nextR_value (ρ := ρ) (o := o) (s := (do eqGuard op t x y (ρ x) (ρ y); binOp op t (ρ x) (ρ y))) (by unfold execOp; rw [ho]; try rfl) (evBin_ok h)
  case unOp op t x => exact nextR_value1 (ρ := ρ) (o := o) (s := Op.unary op (ρ x)) (by unfold execOp; rw [ho]; try rfl) (unI_ok h)
  case convert s d x => exact nextR_value (ρ := ρ) (o := o) (s := convert s d (ρ x)) (by unfold execOp; rw [ho]; try rfl) (evConv_ok h)
  case fieldAddr s x f => exact nextR_value1 (ρ := ρ) (o := o) (s := Instr.fieldAt s (ρ x) f) (by unfold execOp; rw [ho]; try rfl) (evFieldA_ok h)
  case field s x f => exact nextR_value1 (ρ := ρ) (o := o) (s := Instr.field s (ρ x) f) (by unfold execOp; rw [ho]; try rfl) (evField_ok h)
  case indexAddr t x i => exact nextR_value1 (ρ := ρ) (o := o) (s := Instr.indexAt t (ρ x) (ρ i)) (by unfold execOp; rw [ho]; try rfl) (evIdxA_ok h)
  case index t x i => exact nextR_value (ρ := ρ) (o := o) (s := Instr.index t (ρ x) (ρ i)) (by unfold execOp; rw [ho]; try rfl) (evIndex_ok h)
  case slice t x lo hi mx => exact nextR_value1 (ρ := ρ) (o := o) (s := Instr.sliceAt t (ρ x) (lo.map ρ) (hi.map ρ) (mx.map ρ)) (by unfold execOp; rw [ho]; try rfl) (evSlice_ok h)
  case lookup t x i ok => exact nextR_value1 (ρ := ρ) (o := o) (s := Instr.lookup t (ρ x) (ρ i) ok) (by unfold execOp; rw [ho]; try rfl) (evLookup_ok h)
  case mapUpdate t m k x => exact nextR_unit (ρ := ρ) (o := o) (s := Instr.mapUpdate t (ρ m) (ρ k) (ρ x)) (by unfold execOp; rw [ho]; try rfl) (evMapUpd_ok h)
  case insert t m k x => exact nextR_unit (ρ := ρ) (o := o) (s := Instr.mapUpdate t (ρ m) (ρ k) (ρ x)) (by unfold execOp; rw [ho]; try rfl) (evMapUpd_ok h)
  case makeMap t rs =>
    cases rs with
    | none =>
      refine nextR_value (ρ := ρ) (o := o) (s := Instr.makeMap t none) (by unfold execOp; rw [ho]; try rfl) ⟨_, _, ?_, h⟩
      simp [Instr.makeMap]
    | some x => cases h
  case makeSlice t l c => exact nextR_value (ρ := ρ) (o := o) (s := Instr.makeSlice t (ρ l) (ρ c)) (by unfold execOp; rw [ho]; try rfl) (evMakeS_ok h)
  case makeFunc fn a b => exact ⟨_, w, by simp [runOp, execOp, ho, Instr.makeFunc, nextR], h⟩
  case makeInterface t x =>
    split at h
    · cases h
    · rename_i d ht n
      refine nextR_value1 (ρ := ρ) (o := o) (s := Instr.makeInterface t (ρ x)) (by unfold execOp; rw [ho]; try rfl) ⟨_, ?_, h⟩
      simp only [Instr.makeInterface, Sem.run_bind, run_underlying n, Result.andThen_ok]
      cases d <;> first | rfl | (exfalso; exact ht _ rfl)
    · cases h
  case extract t i =>
    split at h
    · rename_i vs hv
      obtain ⟨v, h1, h2⟩ := bind_some_iff' h
      refine nextR_value1 (ρ := ρ) (o := o) (s := Instr.extract (ρ t) i) (by unfold execOp; rw [ho]; try rfl) ⟨v, ?_, castT_ok h2⟩
      simp [Instr.extract, hv, h1]
    · cases h
  case range t x =>
    refine nextR_value (ρ := ρ) (o := o) (s := Instr.range t (ρ x)) (by unfold execOp; rw [ho]; try rfl) (semR_bind h ?_)
    intro q hq
    obtain ⟨p, h1, h2⟩ := bind_some_iff' hq
    cases hv : q.1 <;> rw [hv] at h1 <;> first | (cases h1; done) | skip
    simp only [asP, Option.some.injEq] at h1
    subst h1; exact h2
  case next it s =>
    refine nextR_value (ρ := ρ) (o := o) (s := Instr.next (ρ it) s o.type) (by unfold execOp; rw [ho]; try rfl) (semR_bind h ?_)
    intro q hq
    obtain ⟨x, h1, h2⟩ := bind_some_iff' hq
    unfold asNext at h1
    split at h1
    · rename_i hv; simp only [Option.some.injEq] at h1; subst h1; rw [hv]; exact h2
    · rename_i hv; simp only [Option.some.injEq] at h1; subst h1; rw [hv]; exact h2
    · cases h1
  case entry it =>
    refine nextR_value (ρ := ρ) (o := o) (s := Instr.entry (ρ it)) (by unfold execOp; rw [ho]; try rfl) (semR_bind h ?_)
    intro q hq
    obtain ⟨x, h1, h2⟩ := bind_some_iff' hq
    cases hv : q.1 <;> rw [hv] at h1 <;> try (cases h1; done)
    rename_i cs
    simp only [asTup] at h1
    split at h1
    · rename_i hl
      simp only [Option.some.injEq] at h1
      subst h1
      have : cs = #[cs.toList.getD 0 undef, cs.toList.getD 1 undef] := by
        rcases cs with ⟨l⟩
        simp only at hl
        match l, hl with
        | [a, b], _ => rfl
      rw [this]; exact h2
    · cases h1
  case mapEntry t m k => exact nextR_value (ρ := ρ) (o := o) (s := Instr.mapEntry t (ρ m) (ρ k)) (by unfold execOp; rw [ho]; try rfl) (semR_bind h (fun q hq => hq))
  case entryStore t m s x =>
    obtain ⟨q, h1, h2⟩ := bind_some_iff' h
    have h3 := semR_ok (w' := q.2) (v := q.1) h1
    simp only [Sem.run_bind] at h3
    cases hr : (Instr.entryStore t (ρ m) (ρ s) (ρ x)).run P w with
    | halt x w1 => rw [hr] at h3; cases h3
    | ok u w1 =>
      rw [hr] at h3
      simp only [Result.andThen_ok, Sem.run_pure, Result.ok.injEq] at h3
      refine nextR_unit (ρ := ρ) (o := o) (s := Instr.entryStore t (ρ m) (ρ s) (ρ x)) (by unfold execOp; rw [ho]; try rfl) ⟨w1, hr, ?_⟩
      rw [h3.1, h3.2]; exact h2
  case typeAssert x xt at_ ok => exact nextR_value (ρ := ρ) (o := o) (s := Instr.typeAssert (ρ x) xt at_ ok) (by unfold execOp; rw [ho]; try rfl) (semR_bind h (fun q hq => castT_ok hq))
  case call c => exact evCall_ok ho h
end
end Go.Ev
