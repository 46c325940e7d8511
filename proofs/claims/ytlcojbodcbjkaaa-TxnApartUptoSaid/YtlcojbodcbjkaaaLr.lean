/-
  Lr: lemmas on what Go functions of this seat come to (for whatever arguments, as each says). No condition but those that stand in each lemma.
-/
import Derived.Test.YtlcojbodcbjkaaaLb9
import Derived.RangeFuncLeaves
import Derived.RangeFuncRecord
import Derived.RangeFuncIn
namespace Go.Ev
open Go
set_option linter.unusedSimpArgs false
set_option linter.unusedVariables false

/-! ## a range over a function: its rounds, in the frame of the loop -/
/-- an operation that comes to a value, or to nothing, in whatever frame -/
def Plain (P : Program) (o : Oper) : Prop :=
  (∀ c, o.op ≠ .defer c) ∧ ∀ (ρ : Operand → Value) (w : World) (r : Value × World), runOp P ρ o w = some r → (execOp ρ o).run P w = .ok (.value r.1) r.2 ∨ ((execOp ρ o).run P w = .ok .skip r.2 ∧ r.1 = undef)

theorem plain_value {P : Program} {o : Oper} (hd : ∀ c, o.op ≠ .defer c) (s : (Operand → Value) → Sem Value) (he : ∀ ρ, execOp ρ o = (do let x ← s ρ; pure (Next.value x))) : Plain P o := by
  refine ⟨hd, fun ρ w r h => .inl ?_⟩
  unfold runOp at h
  rw [he] at h ⊢
  rw [Sem.run_bind] at h ⊢
  cases hs : (s ρ).run P w with
  | ok x w1 =>
    rw [hs] at h
    simp only [Result.andThen_ok, Sem.run_pure, nextR, Option.some.injEq] at h ⊢
    subst h
    rfl
  | halt e w1 =>
    rw [hs] at h
    simp [Result.andThen, nextR] at h
theorem plain_unit {P : Program} {o : Oper} (hd : ∀ c, o.op ≠ .defer c) (s : (Operand → Value) → Sem Unit) (he : ∀ ρ, execOp ρ o = (do s ρ; pure Next.skip)) : Plain P o := by
  refine ⟨hd, fun ρ w r h => .inr ?_⟩
  unfold runOp at h
  rw [he] at h ⊢
  rw [Sem.run_bind] at h ⊢
  cases hs : (s ρ).run P w with
  | ok x w1 =>
    rw [hs] at h
    simp only [Result.andThen_ok, Sem.run_pure, nextR, Option.some.injEq] at h ⊢
    subst h
    exact ⟨rfl, rfl⟩
  | halt e w1 =>
    rw [hs] at h
    simp [Result.andThen, nextR] at h

theorem opsIn_round {P : Program} {N l : Nat} {ops : Array Oper} {Q : Exit → Act → World → Prop} (hp : ∀ (i : Nat) (o : Oper), ops[i]? = some o → Plain P o) : ∀ {L : List Nat} {ρ ρ' : Env} {w w' : World} {a : Act},
    Agree N a ρ → Exec P N ops L ρ w ρ' w' → (∀ a', Agree N a' ρ' → Q .normal a' w') → wpOpsIn (Fence.wide.inRound l) 0 P ops Q L a w
  | [], ρ, ρ', w, w', a, ha, he, hQ => by
    obtain ⟨rfl, rfl⟩ := he
    exact hQ a ha
  | i :: L, ρ, ρ', w, w', a, ha, he, hQ => by
    obtain ⟨ρ1, w1, hs, he1⟩ := he
    unfold Step at hs
    unfold wpOpsIn
    cases ho : ops[i]? with
    | none =>
      rw [ho] at hs
      obtain ⟨rfl, rfl⟩ := hs
      exact opsIn_round hp ha he1 hQ
    | some o =>
      rw [ho] at hs
      simp only at hs ⊢
      rcases hs with ⟨hw, hk, hns, v, h1, rfl⟩ | ⟨hw, rfl, rfl⟩
      · rw [if_pos (ha.wanted hw)]
        obtain ⟨hd, hv⟩ := hp i o ho
        have he := execOp_congr (ρ1 := a.eval) (ρ2 := evalO ρ) hns (fun x hx => ha.eval (List.all_eq_true.1 hk x hx))
        refine ⟨fun _ _ => trivial, ?_⟩
        rw [Oper.semAt_eq _ _ _ hd, he]
        rcases hv _ _ _ h1 with h2 | ⟨h2, h3⟩
        · rw [h2]
          exact opsIn_round hp (ha.put _ _) he1 hQ
        · rw [h2]
          simp only at h3
          rw [h3] at he1
          exact opsIn_round hp (ha.put _ _) he1 hQ
      · rw [if_neg (by rw [ha.wanted hw]; simp)]
        exact ⟨fun _ _ => trivial, opsIn_round hp (ha.put _ _) he1 hQ⟩

/-- a region within a round, by what it comes to -/
theorem region_round {P : Program} {N l id : Nat} {ops : Array Oper} {Q : Exit → Act → World → Prop} (hp : ∀ (i : Nat) (o : Oper), ops[i]? = some o → Plain P o) {β : Type} {K : Env → World → Option β} {r : β} {ρ : Env} {w : World} {a : Act}
    (ha : Agree N a ρ) (h : evIdx P N ops (List.range ops.size) ρ w K = some r) (hQ : ∀ a' ρ' w', Agree N a' ρ' → K ρ' w' = some r → Q .normal a' w') : (Code.region id ops false).wpIn (Fence.wide.inRound l) 0 P Q a w := by
  obtain ⟨ρ', w', h1, h2⟩ := evIdx_ok h
  exact wpIn_region (opsIn_round hp ha h1 fun a' ha' => hQ _ _ _ ha' h2)
theorem region_wide {P : Program} {N id : Nat} {ops : Array Oper} {Q : Exit → Act → World → Prop} {β : Type} {K : Env → World → Option β} {r : β} {ρ : Env} {w : World} {a : Act}
    (ha : Agree N a ρ) (h : evIdx P N ops (List.range ops.size) ρ w K = some r) (hQ : ∀ a' ρ' w', Agree N a' ρ' → K ρ' w' = some r → Q .normal a' w') : (Code.region id ops false).wpIn Fence.wide 0 P Q a w := by
  obtain ⟨ρ', w', h1, h2⟩ := evIdx_ok h
  exact wpIn_region (wpOps_of_exec ha h1 fun a' ha' => hQ _ _ _ ha' h2)

theorem agree_init {N : Nat} {T : Array Value} (h : T.size = N) : Agree N { tmps := T, defers := [] } (initEnv T) := by
  refine ⟨h, rfl, fun t v hv => ?_⟩
  simp only [initEnv, Option.some.injEq] at hv
  exact hv

/-- a call of yield -/
theorem callV_yield {P : Program} {l : Nat} {r : Loop} {args : Array Value} {w w' : World} (h : w.heap[l]? = some (.loop r)) (hs : args.size = r.params.size)
    (hr : RoundIn Fence.wide 0 P l r.fn ((r.params.zip args).foldl (fun tmps (t, a) => tmps.setIfInBounds t a) r.tmps) r.assign r.body w (fun e w1 => e = .returned (.bool true) ∧ w1 = w')) :
    callV P (.func (.yield l) #[] #[]) args w = some (.bool true, w') := by
  unfold callV
  have e : (do let d ← Deferred.ofValue (.func (.yield l) #[] #[]) args; invoke d.target d.args).run P w = (Instr.yield l args).run P w := by
    simp [Deferred.ofValue, invoke]
  rw [e, run_yield h hs]
  simp only [nextR]
  exact RR_of_round hr

/-! ## the statement itself, and the function that bears it -/
theorem wpF_rangeFunc {P : Program} {g : Operand} {ps : Array Tmp} {assign body : Code} {Q : Exit → Act → World → Prop} {a : Act} {f l : Nat} {mark : List Deferred} {w w1 w1' w2 w3 w4 : World} {d : Deferred} {f' : FuncId} {args : Array Value} {v : Value}
    (he : (Instr.enterLoop f a.tmps ps assign body none).run P w = .ok (l, mark) w1) (hres : (resolve a.eval (rangeCall g l) 0).run P w1 = .ok d w1') (hinv : (invoke d.target d.args).run P w1' = .ok (.enter f' args) w2)
    (hcall : Calls P f' args w2 (fun e w' => e = .returned v ∧ w' = w3)) (hend : (Instr.endLoop l).run P w3 = .ok none w4) (hQ : Q .normal { a with defers := mark ++ a.defers } w4) :
    wpF P f (.rangeFunc g ps assign body) Q a w := by
  intro b k cs hb
  subst hb
  obtain ⟨b', hb'⟩ : ∃ b' : Frame, { b with roundOf := none } = b' := ⟨_, rfl⟩
  have hat : ∀ (a : Act) (k : List Item), b.at a k = b'.atR a k := by intro a k; rw [← hb']; rfl
  have hfn : b'.fn = b.fn := by rw [← hb']
  have hro : b'.roundOf = none := by rw [← hb']
  have s1 := stepR_rangeFunc (P := P) (b := b') (a := a) (k := k) (cs := cs) (w := w) (g := g) (ps := ps) (assign := assign) (body := body) (by rw [hfn, hro]; exact he) hres hinv
  obtain ⟨e, w', fr, ⟨rfl, rfl⟩, hcomes, _, hleave⟩ := hcall (b'.atR { a with defers := mark ++ a.defers } (.inRangeFunc l :: k) :: cs)
  have s2 := step_leave_returned (c := b'.atR { a with defers := mark ++ a.defers } (.inRangeFunc l :: k)) (cs := cs) hleave
  rw [finish_atR_inRangeFunc] at s2
  have s3 := stepR_endRangeFunc (P := P) (b := b') (a := { a with defers := mark ++ a.defers }) (k := k) (cs := cs) hend
  refine ⟨.normal, _, w4, hQ, ?_⟩
  show Steps P _ _
  rw [hat, hat]
  exact .head s1 (Steps.trans hcomes (.head s2 (.one s3)))

theorem calls_of_wpF_marks {P : Program} {f : FuncId} {fn : Func} {c : Code} {args : Array Value} {w : World} {R : Ending → World → Prop}
    (hf : P.funcs[f]? = some fn) (hb : fn.body = some c) (h : wpF P f c (bodyPostM Fence.wide 0 P fn R) { tmps := args ++ Array.replicate (fn.ntmps - args.size) undef, defers := [] } w) : Calls P f args w R := by
  refine (callsIn_wide (n := 0)).1 ⟨trivial, fun cs hr => ?_⟩
  let b : Frame := { (default : Frame) with fn := f, kind := .normal, roundOf := none }
  have henter : Frame.enter P f args .normal =
      b.at { tmps := args ++ Array.replicate (fn.ntmps - args.size) undef, defers := [] } [.code c] := by
    simp [Frame.enter, Frame.at, hf, hb, b]
  obtain ⟨e, a', w', hq, harr⟩ := h b [] cs rfl
  rw [← henter] at harr
  cases e with
  | normal =>
    obtain ⟨e', w'', fr', hR, hs, hfn, hl⟩ := leaves_stepsInM a'.defers .returning w' { b.atR a' [] with mode := .returning } cs rfl rfl rfl hf rfl trivial hr hq
    refine ⟨e', w'', fr', hR, ComesIn.of_steps (stepsIn_wide.2 (Steps.trans harr (.one ?_))) hs, hfn, hl⟩
    exact stepR_end (b := b) rfl
  | ret =>
    obtain ⟨todo, hs₀⟩ := harr
    obtain ⟨e', w'', fr', hR, hs, hfn, hl⟩ := leaves_stepsInM a'.defers .returning w' { b.atR a' todo with mode := .returning } cs rfl rfl rfl hf rfl trivial hr hq
    exact ⟨e', w'', fr', hR, ComesIn.of_steps (stepsIn_wide.2 hs₀) hs, hfn, hl⟩
  | panic chain =>
    obtain ⟨todo, hs₀⟩ := harr
    obtain ⟨e', w'', fr', hR, hs, hfn, hl⟩ := leaves_stepsInM a'.defers (.panicking chain) w' { b.atR a' todo with mode := .panicking chain } cs rfl rfl rfl hf rfl trivial hr hq
    exact ⟨e', w'', fr', hR, ComesIn.of_steps (stepsIn_wide.2 hs₀) hs, hfn, hl⟩
  | exit id => exact hq.elim
  | goto l => exact hq.elim
  | outgrown => exact ⟨.outgrown, w', b, hq, harr.resolve_left (by simp [b]), rfl, trivial⟩

/-- all the slots of a frame, where each is known -/
theorem Agree.tmps {N : Nat} {a : Act} {ρ : Env} (h : Agree N a ρ) {T : Array Value} (hT : T.size = N) (hρ : ∀ t, t < N → ρ t = some (T.getD t undef)) : a.tmps = T := by
  apply Array.ext
  · rw [h.size, hT]
  · intro i h1 h2
    have := h.get i _ (hρ i (by omega))
    simp only [Array.getD_eq_getD_getElem?, Array.getElem?_eq_getElem h1, Array.getElem?_eq_getElem h2, Option.getD_some] at this
    exact this

abbrev bare (a : Act) : Act := { tmps := a.tmps, defers := [] }
theorem bare_eval (a : Act) (x : Operand) : (bare a).eval x = a.eval x := by cases x <;> rfl
theorem bare_put (a : Act) (d : Option Tmp) (v : Value) : bare (a.put d v) = (bare a).put d v := by cases d <;> rfl
theorem put_defers (a : Act) (d : Option Tmp) (v : Value) : (a.put d v).defers = a.defers := by cases d <;> rfl
/-- a region in a frame that holds a mark -/
theorem wpOps_of_execD {P : Program} {N : Nat} {ops : Array Oper} {Q : Exit → Act → World → Prop} {ds : List Deferred} : ∀ {l : List Nat} {ρ ρ' : Env} {w w' : World} {a : Act},
    Agree N (bare a) ρ → a.defers = ds → Exec P N ops l ρ w ρ' w' → (∀ a', Agree N (bare a') ρ' → a'.defers = ds → Q .normal a' w') → wpOpsIn Fence.wide 0 P ops Q l a w
  | [], ρ, ρ', w, w', a, ha, hd, he, hQ => by
    obtain ⟨rfl, rfl⟩ := he
    exact hQ a ha hd
  | i :: l, ρ, ρ', w, w', a, ha, hd, he, hQ => by
    obtain ⟨ρ1, w1, hs, he1⟩ := he
    unfold Step at hs
    unfold wpOpsIn
    cases ho : ops[i]? with
    | none =>
      rw [ho] at hs
      obtain ⟨rfl, rfl⟩ := hs
      exact wpOps_of_execD ha hd he1 hQ
    | some o =>
      rw [ho] at hs
      simp only at hs ⊢
      rcases hs with ⟨hw, hk, hns, v, h1, rfl⟩ | ⟨hw, rfl, rfl⟩
      · rw [if_pos (ha.wanted hw)]
        refine runOp_wp (v := v) (w' := w1) ?_ ?_
        · unfold runOp at h1 ⊢
          rw [execOp_congr hns (fun x hx => (bare_eval a x).symm.trans (ha.eval (List.all_eq_true.1 hk x hx)))]
          exact h1
        · exact wpOps_of_execD (by rw [bare_put]; exact ha.put _ _) (by rw [put_defers]; exact hd) he1 hQ
      · rw [if_neg (by rw [ha.wanted hw]; simp)]
        exact ⟨fun _ _ => trivial, wpOps_of_execD (by rw [bare_put]; exact ha.put _ _) (by rw [put_defers]; exact hd) he1 hQ⟩
theorem region_mark {P : Program} {N id : Nat} {ops : Array Oper} {Q : Exit → Act → World → Prop} {β : Type} {K : Env → World → Option β} {r : β} {ρ : Env} {w : World} {a : Act} {ds : List Deferred}
    (ha : Agree N (bare a) ρ) (hd : a.defers = ds) (h : evIdx P N ops (List.range ops.size) ρ w K = some r) (hQ : ∀ a' ρ' w', Agree N (bare a') ρ' → a'.defers = ds → K ρ' w' = some r → Q .normal a' w') : (Code.region id ops false).wpIn Fence.wide 0 P Q a w := by
  obtain ⟨ρ', w', h1, h2⟩ := evIdx_ok h
  exact wpIn_region (wpOps_of_execD ha hd h1 fun a' ha' hd' => hQ _ _ _ ha' hd' h2)
end Go.Ev
