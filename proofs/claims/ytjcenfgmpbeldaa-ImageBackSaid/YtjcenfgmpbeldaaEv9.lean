/-
  An evaluator of the code of the model, in Option, and the proof that what it answers is what a call comes to, for whatever program: part Ev9. No condition.
-/
import Derived.Test.YtjcenfgmpbeldaaEv8
namespace Go.Ev
open Go

/-! ## a region whose order is drawn -/
def preds (ops : Array Oper) (i : Nat) : List Nat :=
  match ops[i]? with
  | some o => (o.after.toList.filter (Region.binds .any ·)).map (·.on)
  | none => []

def cls (P : Program) (ops : Array Oper) (i : Nat) : Nat :=
  match ops[i]? with
  | some o => clsOp P o.op
  | none => 2

def dstOf (ops : Array Oper) (i : Nat) : Option Nat := (ops[i]?).bind (·.dst)

def tmpsOf (l : List Operand) : List Nat := l.filterMap fun | .tmp t => some t | _ => none

def readsOf (ops : Array Oper) (i : Nat) : List Nat :=
  match ops[i]? with
  | some o => tmpsOf o.op.operands.toList ++ (match o.guard with | some (j, _) => (dstOf ops j).toList | none => [])
  | none => []

def indep (ops : Array Oper) (i j : Nat) : Bool :=
  (match dstOf ops i with | some d => !(readsOf ops j).contains d && !(dstOf ops j == some d) | none => true) &&
  (match dstOf ops j with | some d => !(readsOf ops i).contains d | none => true)

def swapOk (P : Program) (ops : Array Oper) (i j : Nat) : Bool :=
  indep ops i j && (cls P ops i == 2 || (cls P ops i == 1 && cls P ops j != 0))

def canPrec (ops : Array Oper) (i : Nat) (rem : List Nat) : List Nat → List Nat → List Nat
  | [], S => S
  | j :: l, S => if (j != i && (preds ops j).all (fun p => !rem.contains p || S.contains p)) = true then canPrec ops i rem l (S ++ [j]) else canPrec ops i rem l S

def closedChk (ops : Array Oper) (i : Nat) (rem S : List Nat) : Bool :=
  rem.all fun j => j == i || S.contains j || (preds ops j).any fun p => rem.contains p && !S.contains p

def freeOp (P : Program) (ops : Array Oper) (rem : List Nat) (i : Nat) : Bool :=
  let S := canPrec ops i rem rem []
  closedChk ops i rem S && S.all (swapOk P ops i ·)

def readyL (ops : Array Oper) (rem : List Nat) : List Nat := rem.filter fun i => (preds ops i).all fun p => !rem.contains p

/-- a step of a quiet operation -/
noncomputable def stepQ {β : Type} (P : Program) (N : Nat) (ops : Array Oper) (i : Nat) (ρ : Env) (w : World) (K : Env → World → Option β) : Option β :=
  match ops[i]? with
  | none => K ρ w
  | some o =>
    let go (ρ : Env) : Option β := if known ρ o.op.operands.toList = true then
        (match clsOp P o.op with
        | 2 => evPureK P (evalO ρ) o.op o.type fun v => K (ρ.put N o.dst v) w
        | 1 => evReadK P (evalO ρ) o.op w fun v => K (ρ.put N o.dst v) w
        | _ => none)
      else none
    match o.guard with
    | none => go ρ
    | some (j, want) =>
      match (ops[j]?).bind (·.dst) with
      | none => K (ρ.put N o.dst undef) w
      | some d =>
        if d < N then
          match ρ d with
          | some (.bool b) =>
            if b = true then
              (if want = true then go (ρ.put N (some d) (.bool true)) else K ((ρ.put N (some d) (.bool true)).put N o.dst undef) w)
            else
              (if want = true then K ((ρ.put N (some d) (.bool false)).put N o.dst undef) w else go (ρ.put N (some d) (.bool false)))
          | some _ => K (ρ.put N o.dst undef) w
          | none => none
        else K (ρ.put N o.dst undef) w

noncomputable def stepC {β : Type} (P : Program) (N : Nat) (ops : Array Oper) (i : Nat) (ρ : Env) (w : World) (K : Env → World → Option β) : Option β :=
  match cls P ops i with
  | 0 => stepOp P N ops i ρ w K
  | _ => stepQ P N ops i ρ w K

def ahd (L : List Nat) (a b : Nat) : Bool := decide (L.idxOf a < L.idxOf b)

def br {β : Type} (L : List Nat) : List Nat → (Nat → Option β) → Option β
  | [], _ => none
  | [a], f => f a
  | a :: b :: l, f => if (b :: l).all (ahd L a) = true then f a else br L (b :: l) f

noncomputable def evX {β : Type} (P : Program) (N : Nat) (ops : Array Oper) (L : List Nat) : Nat → List Nat → Env → World → (Env → World → Option β) → Option β
  | 0, rem, ρ, w, K => match rem with
    | [] => K ρ w
    | _ => none
  | n + 1, rem, ρ, w, K => match rem with
    | [] => K ρ w
    | a :: l => match (readyL ops (a :: l)).find? (freeOp P ops (a :: l)) with
      | some i => stepC P N ops i ρ w fun ρ w => evX P N ops L n ((a :: l).erase i) ρ w K
      | none => br L (readyL ops (a :: l)) fun i => stepC P N ops i ρ w fun ρ w => evX P N ops L n ((a :: l).erase i) ρ w K

/-! ### what a step comes to, by values -/
def StepV (P : Program) (N : Nat) (ops : Array Oper) (i : Nat) (ρ : Env) (w : World) (v : Value) (w' : World) : Prop :=
  match ops[i]? with
  | none => w' = w
  | some o => (wantE N ops ρ o = some true ∧ known ρ o.op.operands.toList = true ∧ (∀ cs b, o.op ≠ .select cs b) ∧ runOp P (evalO ρ) o w = some (v, w')) ∨
      (wantE N ops ρ o = some false ∧ v = undef ∧ w' = w)

structure SV (P : Program) (N : Nat) (ops : Array Oper) (i : Nat) (ρ : Env) (w : World) (v : Value) (w' : World) : Prop where
  step : StepV P N ops i ρ w v w'
  quiet : cls P ops i ≠ 0 → w' = w
  pure : cls P ops i = 2 → ∀ w2, StepV P N ops i ρ w2 v w2

theorem step_of_stepV {P : Program} {N : Nat} {ops : Array Oper} {i : Nat} {ρ : Env} {w w' : World} {v : Value} (h : StepV P N ops i ρ w v w') :
    Step P N ops i ρ w (ρ.put N (dstOf ops i) v) w' := by
  unfold StepV at h
  unfold Step dstOf
  cases ho : ops[i]? with
  | none => rw [ho] at h; exact ⟨rfl, h⟩
  | some o =>
    rw [ho] at h
    simp only [Option.bind_some] at h ⊢
    rcases h with ⟨h1, h2, h3, h4⟩ | ⟨h1, rfl, rfl⟩
    · exact .inl ⟨h1, h2, h3, v, h4, rfl⟩
    · exact .inr ⟨h1, rfl, rfl⟩

theorem stepV_of_step {P : Program} {N : Nat} {ops : Array Oper} {i : Nat} {ρ ρ' : Env} {w w' : World} (h : Step P N ops i ρ w ρ' w') :
    ∃ v, StepV P N ops i ρ w v w' ∧ ρ' = ρ.put N (dstOf ops i) v := by
  unfold Step at h
  unfold StepV dstOf
  cases ho : ops[i]? with
  | none => rw [ho] at h; exact ⟨undef, h.2, h.1⟩
  | some o =>
    rw [ho] at h
    simp only [Option.bind_some] at h ⊢
    rcases h with ⟨h1, h2, h3, v, h4, h5⟩ | ⟨h1, h2, h3⟩
    · exact ⟨v, .inl ⟨h1, h2, h3, h4⟩, h5⟩
    · exact ⟨undef, .inr ⟨h1, rfl, h3⟩, h2⟩

theorem noSel_of_cls {P : Program} {o : Op} (h : clsOp P o ≠ 0) : ∀ cs b, o ≠ .select cs b := by
  intro cs b e
  subst e
  exact h rfl

theorem stepQ_ok {β : Type} {P : Program} {N : Nat} {ops : Array Oper} {i : Nat} {ρ : Env} {w : World} {K : Env → World → Option β} {r : β}
    (h : stepQ P N ops i ρ w K = some r) : ∃ v, SV P N ops i ρ w v w ∧ K (ρ.put N (dstOf ops i) v) w = some r := by
  unfold stepQ at h
  cases ho : ops[i]? with
  | none =>
    rw [ho] at h
    refine ⟨undef, ⟨by simp [StepV, ho], fun _ => rfl, fun _ w2 => by simp [StepV, ho]⟩, ?_⟩
    simpa [dstOf, ho, Env.put] using h
  | some o =>
    rw [ho] at h
    have hdst : dstOf ops i = o.dst := by simp [dstOf, ho]
    have hcls : cls P ops i = clsOp P o.op := by simp [cls, ho]
    have run : ∀ {ρ1 : Env}, ρ1 = ρ → (if known ρ1 o.op.operands.toList = true then
        (match clsOp P o.op with
        | 2 => evPureK P (evalO ρ1) o.op o.type fun v => K (ρ1.put N o.dst v) w
        | 1 => evReadK P (evalO ρ1) o.op w fun v => K (ρ1.put N o.dst v) w
        | _ => none)
      else none) = some r → wantE N ops ρ o = some true → ∃ v, SV P N ops i ρ w v w ∧ K (ρ.put N (dstOf ops i) v) w = some r := by
      intro ρ1 e h1 hw
      subst e
      rw [hdst]
      split at h1
      · rename_i hk
        split at h1
        · rename_i hc
          have hns := noSel_of_cls (P := P) (o := o.op) (by rw [hc]; decide)
          obtain ⟨v, h2, h3⟩ := pure_ok h1
          exact ⟨v, ⟨by simp only [StepV, ho]; exact .inl ⟨hw, hk, hns, h2 w⟩, fun _ => rfl, fun _ w2 => by simp only [StepV, ho]; exact .inl ⟨hw, hk, hns, h2 w2⟩⟩, h3⟩
        · rename_i hc
          have hns := noSel_of_cls (P := P) (o := o.op) (by rw [hc]; decide)
          obtain ⟨v, h2, h3⟩ := read_ok h1
          exact ⟨v, ⟨by simp only [StepV, ho]; exact .inl ⟨hw, hk, hns, h2⟩, fun _ => rfl, fun h4 => by rw [hcls, hc] at h4; cases h4⟩, h3⟩
        · cases h1
      · cases h1
    have skip : ∀ {ρ1 : Env}, ρ1 = ρ → K (ρ1.put N o.dst undef) w = some r → wantE N ops ρ o = some false →
        ∃ v, SV P N ops i ρ w v w ∧ K (ρ.put N (dstOf ops i) v) w = some r := by
      intro ρ1 e h1 hw
      subst e
      rw [hdst]
      exact ⟨undef, ⟨by unfold StepV; rw [ho]; exact .inr ⟨hw, rfl, rfl⟩, fun _ => rfl, fun _ w2 => by unfold StepV; rw [ho]; exact .inr ⟨hw, rfl, rfl⟩⟩, h1⟩
    simp only at h
    split at h
    · rename_i hg
      exact run rfl h (by simp [wantE, hg])
    · rename_i j want hg
      split at h
      · rename_i hd
        exact skip rfl h (by simp [wantE, hg, hd])
      · rename_i d hd
        split at h
        · rename_i hdN
          split at h
          · rename_i b hb
            split at h
            · rename_i hbt
              subst hbt
              split at h
              · rename_i hw; subst hw
                exact run (put_same hb) h (by simp [wantE, hg, hd, hdN, hb])
              · rename_i hw
                exact skip (put_same hb) h (by simp [wantE, hg, hd, hdN, hb]; cases want <;> simp_all)
            · rename_i hbt
              have : b = false := by simpa using hbt
              subst this
              split at h
              · rename_i hw; subst hw
                exact skip (put_same hb) h (by simp [wantE, hg, hd, hdN, hb])
              · rename_i hw
                exact run (put_same hb) h (by simp [wantE, hg, hd, hdN, hb]; cases want <;> simp_all)
          · rename_i v hnb hv
            exact skip rfl h (by
              simp only [wantE, hg, hd, hdN, if_true, hv]
              try (cases v <;> first | rfl | exact absurd rfl (hnb _)))
          · cases h
        · rename_i hdN
          exact skip rfl h (by simp [wantE, hg, hd, hdN])

theorem stepC_ok {β : Type} {P : Program} {N : Nat} {ops : Array Oper} {i : Nat} {ρ : Env} {w : World} {K : Env → World → Option β} {r : β}
    (h : stepC P N ops i ρ w K = some r) : ∃ v w', SV P N ops i ρ w v w' ∧ K (ρ.put N (dstOf ops i) v) w' = some r := by
  unfold stepC at h
  split at h
  · rename_i hc
    obtain ⟨ρ', w', h1, h2⟩ := stepOp_ok h
    obtain ⟨v, h3, rfl⟩ := stepV_of_step h1
    exact ⟨v, w', ⟨h3, fun h4 => absurd hc h4, fun h4 => by rw [hc] at h4; cases h4⟩, h2⟩
  · obtain ⟨v, h1, h2⟩ := stepQ_ok h
    exact ⟨v, w, h1, h2⟩
end Go.Ev
