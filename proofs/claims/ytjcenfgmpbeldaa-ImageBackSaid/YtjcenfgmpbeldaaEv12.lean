/-
  An evaluator of the code of the model, in Option, and the proof that what it answers is what a call comes to, for whatever program: part Ev12. No condition.
-/
import Derived.Test.YtjcenfgmpbeldaaEv11
namespace Go.Ev
open Go
section
variable {P : Program} {f : Nat} {Q : Exit → Act → World → Prop} {a : Act} {w : World}

theorem wpF_of {c : Code} (h : c.wp P Q a w) : wpF P f c Q a w := fun b k cs _ => h b k cs

theorem wpF_seq {x y : Code} (h : wpF P f x (fun e a w => match e with | .normal => wpF P f y Q a w | e => Q e a w) a w) : wpF P f (.seq x y) Q a w := by
  intro b k cs hb
  obtain ⟨e, a₁, w₁, hq, harr⟩ := h b (.code y :: k) cs hb
  cases e with
  | normal =>
    obtain ⟨e₂, a₂, w₂, hq₂, harr₂⟩ := hq b k cs hb
    exact ⟨e₂, a₂, w₂, hq₂, .of_steps (.head step_seq harr) harr₂⟩
  | exit id => exact ⟨_, a₁, w₁, hq, .of_steps (.one step_seq) (.pass (x := .code y) rfl (fun _ _ => .inl (by simp)) harr)⟩
  | goto l => exact ⟨_, a₁, w₁, hq, .of_steps (.one step_seq) (.pass (x := .code y) rfl (fun _ _ => .inl (by simp)) harr)⟩
  | ret => exact ⟨_, a₁, w₁, hq, .of_steps (.one step_seq) (.pass (x := .code y) rfl (fun _ _ => .inl (by simp)) harr)⟩
  | panic ch => exact ⟨_, a₁, w₁, hq, .of_steps (.one step_seq) (.pass (x := .code y) rfl (fun _ _ => .inl (by simp)) harr)⟩
  | outgrown => exact ⟨_, a₁, w₁, hq, .of_steps (.one step_seq) (.pass (x := .code y) rfl (fun _ _ => .inl (by simp)) harr)⟩

theorem wpF_cond {c : Operand} {x y : Code} {t : Bool} (hc : a.eval c = .bool t) (h : wpF P f (if t then x else y) Q a w) : wpF P f (.cond c x y) Q a w :=
  fun b k cs hb => let ⟨e, a', w', q, r⟩ := h b k cs hb; ⟨e, a', w', q, .of_steps (.one (step_cond hc)) r⟩

theorem wpF_block {id : Nat} {c : Code} (h : wpF P f c (fun e a w => match e with | .exit id' => (if id' = id then Q .normal a w else Q (.exit id') a w) | e => Q e a w) a w) :
    wpF P f (.block id c) Q a w := by
  intro b k cs hb
  obtain ⟨e, a₁, w₁, hq, harr⟩ := h b (.inBlock id :: k) cs hb
  cases e with
  | normal => exact ⟨.normal, a₁, w₁, hq, .head step_block (Steps.trans harr (.one step_inBlock))⟩
  | exit id' =>
    by_cases hid : id' = id
    · simp only [hid, if_true] at hq
      exact ⟨.normal, a₁, w₁, hq, .head step_block (harr k (by simp [exitTo, hid]))⟩
    · simp only [hid, if_false] at hq
      refine ⟨.exit id', a₁, w₁, hq, fun k' hk => .head step_block (harr k' ?_)⟩
      have : (id == id') = false := by simp; exact fun h => hid h.symm
      simp [exitTo, this, hk]
  | goto l => exact ⟨_, a₁, w₁, hq, fun k' hk => .head step_block (harr k' (by simp [gotoIn, hk]))⟩
  | ret => exact ⟨_, a₁, w₁, hq, .of_steps (.one step_block) harr⟩
  | panic ch => exact ⟨_, a₁, w₁, hq, .of_steps (.one step_block) harr⟩
  | outgrown => exact ⟨_, a₁, w₁, hq, .of_steps (b := b) (k := k) (cs := cs) (e := .outgrown) (.one step_block) harr⟩

/-- so many rounds -/
def roundsF (P : Program) (f : Nat) (c : Code) (Q : Exit → Act → World → Prop) : Nat → Act → World → Prop
  | 0, _, _ => False
  | n + 1, a, w => wpF P f c (fun e a w => match e with | .normal => roundsF P f c Q n a w | e => Q e a w) a w

theorem wpF_loop {c : Code} (n : Nat) (h : roundsF P f c Q n a w) : wpF P f (.loop c) Q a w := by
  intro b k cs hb
  have key : ∀ n a w, roundsF P f c Q n a w →
      ∃ e a' w', Q e a' w' ∧ Arrives P (lone (b.at a (.code c :: .inLoop c :: k)) cs w) b k cs e a' w' := by
    intro n
    induction n with
    | zero => intro a w h; exact h.elim
    | succ n ih =>
      intro a w h
      obtain ⟨e, a₁, w₁, hq, harr⟩ := h b (.inLoop c :: k) cs hb
      cases e with
      | normal =>
        obtain ⟨e₂, a₂, w₂, hq₂, harr₂⟩ := ih a₁ w₁ hq
        exact ⟨e₂, a₂, w₂, hq₂, .of_steps (Steps.trans harr (.one step_inLoop)) harr₂⟩
      | exit id => exact ⟨_, a₁, w₁, hq, .pass (x := .inLoop c) rfl (fun _ _ => .inl (by simp)) harr⟩
      | goto l => exact ⟨_, a₁, w₁, hq, .pass (x := .inLoop c) rfl (fun _ _ => .inl (by simp)) harr⟩
      | ret => exact ⟨_, a₁, w₁, hq, .pass (x := .inLoop c) rfl (fun _ _ => .inl (by simp)) harr⟩
      | panic ch => exact ⟨_, a₁, w₁, hq, .pass (x := .inLoop c) rfl (fun _ _ => .inl (by simp)) harr⟩
      | outgrown => exact ⟨_, a₁, w₁, hq, .pass (x := .inLoop c) rfl (fun _ _ => .inl (by simp)) harr⟩
  obtain ⟨e, a', w', hq, harr⟩ := key n a w h
  exact ⟨e, a', w', hq, .of_steps (.one step_loop) harr⟩
end

theorem Agree.restr {N : Nat} {a : Act} {ρ : Env} (h : Agree N a ρ) (X : List Nat) : Agree N a (restr N X ρ) :=
  ⟨h.size, h.defers, fun t v hv => h.get t v (restr_sub hv)⟩

theorem ev_ok {P : Program} {N f : Nat} {ann : List (List Nat × List Nat)} : ∀ (c : Code) {pt : List Nat} {β : Type} {K : Exit → Env → World → Option β} {ρ : Env} {w : World} {r : β} {a : Act}
    {Q : Exit → Act → World → Prop},
    Agree N a ρ → ev P N f ann c pt K ρ w = some r → (∀ e ρ' a' w', Agree N a' ρ' → K e ρ' w' = some r → Q e a' w') → wpF P f c Q a w
  | .skip, pt, β, K, ρ, w, r, a, Q, ha, h, hQ => wpF_of (wp_skip (hQ _ _ _ _ ha h))
  | .region id ops draw, pt, β, K, ρ, w, r, a, Q, ha, h, hQ => by
    cases draw with
    | false =>
      obtain ⟨ρ', w', h1, h2⟩ := evIdx_ok h
      exact wpF_of (wp_region (wpOps_of_exec ha h1 fun a' ha' => hQ _ _ _ _ ha' h2))
    | true =>
      simp only [ev, evDraw] at h
      split at h
      · rename_i hc
        simp only [Bool.and_eq_true] at hc
        have hv := schedule_valid hc.2 (w.tape w.drawn (.order f id))
        have hn := (hv.perm.nodup_iff).1 List.nodup_range
        obtain ⟨ρ', w', h1, h2⟩ := evX_ok hn List.nodup_range hv (List.Sublist.refl _) h
        intro b k cs hb
        refine wp_region_draw' (f := f) ?_ b hb k cs
        rw [hc.1]
        exact wpOps_of_exec ha h1.exec fun a' ha' => hQ _ _ _ _ ha' h2
      · cases h
  | .seq x y, pt, β, K, ρ, w, r, a, Q, ha, h, hQ => by
    refine wpF_seq (ev_ok x ha h ?_)
    intro e ρ' a' w' ha' h'
    cases e <;> first | exact ev_ok y ha' h' hQ | exact hQ _ _ _ _ ha' h'
  | .cond c x y, pt, β, K, ρ, w, r, a, Q, ha, h, hQ => by
    simp only [ev] at h
    split at h
    · rename_i t hc
      have hev : a.eval c = .bool t := by
        cases c with
        | tmp t' => exact ha.get t' _ hc
        | const v => simp only [getO, Option.some.injEq] at hc; exact hc
        | global g => cases hc
        | func g => cases hc
      refine wpF_cond (t := t) hev ?_
      split at h
      · rename_i ht; subst ht; exact ev_ok x ha h hQ
      · rename_i ht
        have : t = false := by simpa using ht
        subst this; exact ev_ok y ha h hQ
    · cases h
  | .block id c, pt, β, K, ρ, w, r, a, Q, ha, h, hQ => by
    refine wpF_block (ev_ok c ha h ?_)
    intro e ρ' a' w' ha' h'
    cases e with
    | exit id' =>
      simp only [blkK] at h' ⊢
      split at h'
      · rename_i hid; rw [if_pos hid]; exact hQ _ _ _ _ ha' h'
      · rename_i hid; rw [if_neg hid]; exact hQ _ _ _ _ ha' h'
    | _ => exact hQ _ _ _ _ ha' h'
  | .loop c, pt, β, K, ρ, w, r, a, Q, ha, h, hQ => by
    simp only [ev] at h
    obtain ⟨⟨e, ρ1, w1⟩, h1, h2⟩ := bind_some_iff' h
    obtain ⟨n, h3⟩ := loopD_iter h1
    have hne := iterN_exit h3
    refine wpF_loop n ?_
    clear h1 h
    have key : ∀ (n : Nat) (ρ : Env) (w : World) (a : Act), Agree N a ρ → iterN N (annOf ann pt) (ev P N f ann c (0 :: pt) retX) n ρ w = some (e, ρ1, w1) → roundsF P f c Q n a w := by
      intro n
      induction n with
      | zero => intro ρ w a _ h; cases h
      | succ n ih =>
        intro ρ w a ha h
        unfold iterN at h
        unfold roundsF
        split at h
        · cases h
        · rename_i ρ2 w2 hs
          refine ev_ok c ha hs ?_
          intro e' ρ' a' w' ha' he'
          simp only [retX, Option.some.injEq, Prod.mk.injEq] at he'
          obtain ⟨rfl, rfl, rfl⟩ := he'
          exact ih _ _ _ (ha'.restr _) h
        · rename_i e2 ρ2 w2 hn hs
          simp only [Option.some.injEq, Prod.mk.injEq] at h
          obtain ⟨rfl, rfl, rfl⟩ := h
          refine ev_ok c ha hs ?_
          intro e' ρ' a' w' ha' he'
          simp only [retX, Option.some.injEq, Prod.mk.injEq] at he'
          obtain ⟨rfl, rfl, rfl⟩ := he'
          have := hQ _ _ _ _ (ha'.restr (annOf ann pt)) h2
          cases e' <;> first | exact absurd rfl hne | exact this
    exact key n _ w a (ha.restr _) h3
  | .exit id, pt, β, K, ρ, w, r, a, Q, ha, h, hQ => wpF_of (wp_exit (hQ _ _ _ _ ha h))
  | .ret, pt, β, K, ρ, w, r, a, Q, ha, h, hQ => wpF_of (wp_ret (hQ _ _ _ _ ha h))
  | .label l, pt, β, K, ρ, w, r, a, Q, ha, h, hQ => wpF_of (wp_label (hQ _ _ _ _ ha h))
  | .goto l, pt, β, K, ρ, w, r, a, Q, ha, h, hQ => by simp [ev] at h
  | .scope c, pt, β, K, ρ, w, r, a, Q, ha, h, hQ => by simp [ev] at h
  | .refuse s, pt, β, K, ρ, w, r, a, Q, ha, h, hQ => by simp [ev] at h
  | .rangeFunc g p x y, pt, β, K, ρ, w, r, a, Q, ha, h, hQ => by simp [ev] at h

/-! ## a function -/
def initEnv (args : Array Value) : Env := fun t => some (args.getD t undef)

/-- the results' values -/
def resL {β : Type} (P : Program) (ρ : Env) (w : World) : List ResultVar → (List Value → Option β) → Option β
  | [], K => K []
  | .tmp t :: l, K => match ρ t with
    | some v => resL P ρ w l fun vs => K (v :: vs)
    | none => none
  | .cell a t :: l, K => match ρ a with
    | some (.pointer (some ad)) => loadT P t w ad fun v => resL P ρ w l fun vs => K (v :: vs)
    | _ => none

def resV : List Value → Value
  | [v] => v
  | vs => .tuple vs.toArray

noncomputable def retK (P : Program) (rs : List ResultVar) : Exit → Env → World → Option (Value × World) := fun e ρ w => match e with
  | .normal => resL P ρ w rs fun vs => some (resV vs, w)
  | .ret => resL P ρ w rs fun vs => some (resV vs, w)
  | _ => none

noncomputable def evFn (P : Program) (f : FuncId) (ann : List (List Nat × List Nat)) (args : Array Value) (w : World) : Option (Value × World) :=
  match P.funcs[f]? with
  | none => none
  | some fn => match fn.body with
    | none => none
    | some c => if args.size ≤ fn.ntmps then
        ev P fn.ntmps f ann c [] (retK P fn.results.toList) (initEnv args) w
      else none

def resS (tmps : Array Value) : ResultVar → Sem Value
  | .tmp t => pure (tmps.getD t undef)
  | .cell c t => do loadVar t (← asAddr (tmps.getD c undef))

theorem resL_ok {β : Type} {P : Program} {ρ : Env} {w : World} {a : Act} {N : Nat} (ha : Agree N a ρ) : ∀ {l : List ResultVar} {K : List Value → Option β} {r : β}, resL P ρ w l K = some r →
    ∃ vs, (l.mapM (resS a.tmps)).run P w = .ok vs w ∧ K vs = some r
  | [], K, r, h => ⟨[], rfl, h⟩
  | .tmp t :: l, K, r, h => by
    simp only [resL] at h
    split at h
    case h_2 => cases h
    rename_i v hv
    obtain ⟨vs, h1, h2⟩ := resL_ok ha (l := l) h
    refine ⟨_, ?_, h2⟩
    rw [List.mapM_cons, Sem.run_bind]
    have : (resS a.tmps (.tmp t)).run P w = .ok v w := by simp only [resS, Sem.run_pure, ha.get t v hv]
    rw [this, Result.andThen_ok, Sem.run_bind, h1, Result.andThen_ok]
    rfl
  | .cell c t :: l, K, r, h => by
    simp only [resL] at h
    split at h
    · rename_i ad hc
      obtain ⟨v, h1, h2⟩ := loadT_ok h
      obtain ⟨vs, h3, h4⟩ := resL_ok ha (l := l) h2
      refine ⟨_, ?_, h4⟩
      have hl : (loadVar t ad).run P w = .ok v w := by simpa [Instr.loadAt, Instr.sureAddr] using h1
      have : (resS a.tmps (.cell c t)).run P w = .ok v w := by simp only [resS, Sem.run_bind, ha.get c _ hc, asAddr, Sem.run_pure, Result.andThen_ok, hl]
      rw [List.mapM_cons, Sem.run_bind, this, Result.andThen_ok, Sem.run_bind, h3, Result.andThen_ok]
      rfl
    · cases h

theorem results_ok {P : Program} {ρ : Env} {w : World} {a : Act} {N : Nat} {fn : Func} {r : Value × World} (ha : Agree N a ρ)
    (h : (resL P ρ w fn.results.toList fun vs => some (resV vs, w)) = some r) : (results fn a.tmps).run P w = .ok r.1 w ∧ r.2 = w := by
  obtain ⟨vs, h1, h2⟩ := resL_ok ha h
  simp only [Option.some.injEq] at h2
  subst h2
  refine ⟨?_, rfl⟩
  have e : results fn a.tmps = (do
      let vs ← fn.results.mapM (resS a.tmps)
      pure (if h : vs.size = 1 then vs[0] else .tuple vs)) := rfl
  rw [e, Sem.run_bind, Array.mapM_eq_mapM_toList, Sem.run_map, h1]
  simp only [Result.andThen_ok, Sem.run_pure]
  match vs with
  | [] => rfl
  | [v] => rfl
  | v :: u :: l => simp [resV]

theorem calls_of_evFn {P : Program} {f : FuncId} {args : Array Value} {w w' : World} {v : Value} {ann : List (List Nat × List Nat)} (h : evFn P f ann args w = some (v, w')) :
    Calls P f args w (fun e w1 => e = .returned v ∧ w1 = w') := by
  unfold evFn at h
  cases hf : P.funcs[f]? with
  | none => rw [hf] at h; cases h
  | some fn =>
    rw [hf] at h
    simp only at h
    cases hb : fn.body with
    | none => rw [hb] at h; cases h
    | some c =>
      rw [hb] at h
      simp only at h
      split at h
      · rename_i hsz
        have ha : Agree fn.ntmps { tmps := args ++ Array.replicate (fn.ntmps - args.size) undef, defers := [] } (initEnv args) := by
          refine ⟨by simp; omega, rfl, fun t v hv => ?_⟩
          simp only [initEnv, Option.some.injEq] at hv
          rw [← hv]
          simp only [ Array.getD_eq_getD_getElem?, Array.getElem?_append]
          split
          · rfl
          · rename_i ht
            rw [Array.getElem?_eq_none (xs := args) (by omega)]
            simp only [Array.getElem?_replicate]
            split <;> rfl
        have hwp := ev_ok (Q := bodyPost P fn (fun e w1 => e = .returned v ∧ w1 = w')) c ha h (by
          intro e ρ' a' w1 ha' hk
          cases e <;> simp only [retK] at hk <;> first | (cases hk; done) | skip
          all_goals
            obtain ⟨h1, h2⟩ := results_ok ha' hk
            exact ⟨ha'.defers, _, h1, rfl, h2.symm⟩)
        intro cs
        let b : Frame := { (default : Frame) with fn := f, kind := .normal }
        have henter : Frame.enter P f args .normal =
            b.at { tmps := args ++ Array.replicate (fn.ntmps - args.size) undef, defers := [] } [.code c] := by
          simp [Frame.enter, Frame.at, hf, hb, b]
        obtain ⟨e, a', w1, hq, harr⟩ := hwp b [] cs rfl
        rw [← henter] at harr
        cases e with
        | normal =>
          obtain ⟨hd, v', hr, hR⟩ := hq
          exact ⟨.returned v', w1, _, hR, Steps.trans harr (.one step_end), rfl, rfl, hd, rfl, fn, hf, hr⟩
        | ret =>
          obtain ⟨hd, v', hr, hR⟩ := hq
          obtain ⟨todo, hs⟩ := harr
          exact ⟨.returned v', w1, _, hR, hs, rfl, rfl, hd, rfl, fn, hf, hr⟩
        | panic chain =>
          obtain ⟨hd, hR⟩ := hq
          exact absurd hR.1 (by simp)
        | exit id => exact hq.elim
        | goto l => exact hq.elim
        | outgrown => exact absurd hq.1 (by simp)
      · cases h

/-- a called function, by what its text comes to -/
theorem callF_of_evFn {P : Program} {f : FuncId} {args : Array Value} {w : World} {r : Value × World} {ann : List (List Nat × List Nat)}
    (hc : ∀ (args : Array Value) (w : World), (callFunc f args).run P w = .ok (.enter f args) w) (hi : P.inits.idxOf? f = none)
    (h : evFn P f ann args w = some r) : callF P f args w = some r := by
  unfold callF
  rw [hc]
  exact R_of_calls hi (calls_of_evFn h)

theorem callF_of_calls {P : Program} {f : FuncId} {args : Array Value} {w w' : World} {v : Value}
    (hc : ∀ (args : Array Value) (w : World), (callFunc f args).run P w = .ok (.enter f args) w) (hi : P.inits.idxOf? f = none)
    (h : Calls P f args w (fun e w1 => e = .returned v ∧ w1 = w')) : callF P f args w = some (v, w') := by
  unfold callF
  rw [hc]
  exact R_of_calls hi h

theorem calls_of_callF {P : Program} {f : FuncId} {args : Array Value} {w w' : World} {v : Value}
    (hc : ∀ (args : Array Value) (w : World), (callFunc f args).run P w = .ok (.enter f args) w)
    (h : callF P f args w = some (v, w')) : Calls P f args w (fun e w1 => e = .returned v ∧ w1 = w') := by
  unfold callF at h
  rw [hc] at h
  exact calls_of_R h
end Go.Ev
