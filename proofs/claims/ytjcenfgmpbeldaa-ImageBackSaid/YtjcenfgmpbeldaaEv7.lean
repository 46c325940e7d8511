/-
  An evaluator of the code of the model, in Option, and the proof that what it answers is what a call comes to, for whatever program: part Ev7. No condition.
-/
import Derived.Test.YtjcenfgmpbeldaaEv6
namespace Go.Ev
open Go

theorem evOp_noSel {β : Type} {P : Program} {ρ : Operand → Value} {o : Op} {t : TypeId} {w : World} {K : Value → World → Option β} {r : β} (h : evOp P ρ o t w K = some r) :
    ∀ cs b, o ≠ .select cs b := by
  intro cs b e
  subst e
  simp [evOp] at h

/-- is an operation wanted? none: its guard is not known -/
def wantE (N : Nat) (ops : Array Oper) (ρ : Env) (o : Oper) : Option Bool :=
  match o.guard with
  | none => some true
  | some (j, want) =>
    match (ops[j]?).bind (·.dst) with
    | none => some false
    | some d => if d < N then
        (match ρ d with
        | some (.bool b) => some (b == want)
        | some _ => some false
        | none => none)
      else some false

/-- one operation of a region, its guard first -/
noncomputable def stepOp {β : Type} (P : Program) (N : Nat) (ops : Array Oper) (i : Nat) (ρ : Env) (w : World) (K : Env → World → Option β) : Option β :=
  match ops[i]? with
  | none => K ρ w
  | some o =>
    let go (ρ : Env) : Option β := if known ρ o.op.operands.toList = true then evOp P (evalO ρ) o.op o.type w fun v w => K (ρ.put N o.dst v) w else none
    match o.guard with
    | none => go ρ
    | some (j, want) =>
      match (ops[j]?).bind (·.dst) with
      | none => K (ρ.put N o.dst undef) w
      | some d =>
        if d < N then
          match ρ d with
          | some (.bool b) =>
            if b = true then
              (if want = true then go (ρ.put N (some d) (.bool true)) else K ((ρ.put N (some d) (.bool true)).put N o.dst undef) w)
            else
              (if want = true then K ((ρ.put N (some d) (.bool false)).put N o.dst undef) w else go (ρ.put N (some d) (.bool false)))
          | some _ => K (ρ.put N o.dst undef) w
          | none => none
        else K (ρ.put N o.dst undef) w

noncomputable def evIdx {β : Type} (P : Program) (N : Nat) (ops : Array Oper) : List Nat → Env → World → (Env → World → Option β) → Option β
  | [], ρ, w, K => K ρ w
  | i :: l, ρ, w, K => stepOp P N ops i ρ w fun ρ w => evIdx P N ops l ρ w K

/-- the same as a relation, over the model's own word -/
def Step (P : Program) (N : Nat) (ops : Array Oper) (i : Nat) (ρ : Env) (w : World) (ρ' : Env) (w' : World) : Prop :=
  match ops[i]? with
  | none => ρ' = ρ ∧ w' = w
  | some o => (wantE N ops ρ o = some true ∧ known ρ o.op.operands.toList = true ∧ (∀ cs b, o.op ≠ .select cs b) ∧ ∃ v, runOp P (evalO ρ) o w = some (v, w') ∧ ρ' = ρ.put N o.dst v) ∨
      (wantE N ops ρ o = some false ∧ ρ' = ρ.put N o.dst undef ∧ w' = w)

def Exec (P : Program) (N : Nat) (ops : Array Oper) : List Nat → Env → World → Env → World → Prop
  | [], ρ, w, ρ', w' => ρ' = ρ ∧ w' = w
  | i :: l, ρ, w, ρ', w' => ∃ ρ1 w1, Step P N ops i ρ w ρ1 w1 ∧ Exec P N ops l ρ1 w1 ρ' w'

theorem blt_true {d N : Nat} (h : Nat.blt d N = true) : d < N := Nat.le_of_ble_eq_true h
theorem blt_false {d N : Nat} (h : Nat.blt d N = false) : N ≤ d := by
  rcases Nat.lt_or_ge d N with h1 | h1
  · have : Nat.blt d N = true := Nat.ble_eq_true_of_le h1
    rw [this] at h; cases h
  · exact h1
theorem put_out {N d : Nat} {ρ : Env} {v : Value} (h : Nat.blt d N = false) : ρ.put N (some d) v = ρ := by
  simp [Env.put, h]
theorem put_at {N d : Nat} {ρ : Env} {v : Value} (h : Nat.blt d N = true) : ρ.put N (some d) v d = some v := by
  simp [Env.put, h]
theorem put_ne {N d t : Nat} {ρ : Env} {v : Value} (h : t ≠ d) : ρ.put N (some d) v t = ρ t := by
  simp only [Env.put]
  cases Nat.blt d N with
  | false => rfl
  | true =>
    have : Nat.beq t d = false := by
      cases hb : Nat.beq t d with
      | false => rfl
      | true => exact absurd (Nat.eq_of_beq_eq_true hb) h
    simp [this]

theorem put_same {N d : Nat} {ρ : Env} {v : Value} (h : ρ d = some v) : ρ.put N (some d) v = ρ := by
  cases hb : Nat.blt d N with
  | false => exact put_out hb
  | true =>
    funext t
    by_cases ht : t = d
    · subst ht; rw [put_at hb]; exact h.symm
    · exact put_ne ht

theorem stepOp_ok {β : Type} {P : Program} {N : Nat} {ops : Array Oper} {i : Nat} {ρ : Env} {w : World} {K : Env → World → Option β} {r : β}
    (h : stepOp P N ops i ρ w K = some r) : ∃ ρ' w', Step P N ops i ρ w ρ' w' ∧ K ρ' w' = some r := by
  unfold stepOp at h
  unfold Step
  cases ho : ops[i]? with
  | none => rw [ho] at h; exact ⟨ρ, w, ⟨rfl, rfl⟩, h⟩
  | some o =>
    rw [ho] at h
    simp only at h ⊢
    have run : ∀ {ρ1 : Env}, ρ1 = ρ → (if known ρ1 o.op.operands.toList = true then evOp P (evalO ρ1) o.op o.type w fun v w => K (ρ1.put N o.dst v) w else none) = some r →
        wantE N ops ρ o = some true → ∃ ρ' w', ((wantE N ops ρ o = some true ∧ known ρ o.op.operands.toList = true ∧ (∀ cs b, o.op ≠ .select cs b) ∧ ∃ v, runOp P (evalO ρ) o w = some (v, w') ∧ ρ' = ρ.put N o.dst v) ∨
          (wantE N ops ρ o = some false ∧ ρ' = ρ.put N o.dst undef ∧ w' = w)) ∧ K ρ' w' = some r := by
      intro ρ1 e h1 hw
      subst e
      split at h1
      · rename_i hk
        have hns := evOp_noSel h1
        obtain ⟨v, w', h2, h3⟩ := evOp_ok h1
        exact ⟨_, w', .inl ⟨hw, hk, hns, v, h2, rfl⟩, h3⟩
      · cases h1
    have skip : ∀ {ρ1 : Env}, ρ1 = ρ → K (ρ1.put N o.dst undef) w = some r → wantE N ops ρ o = some false →
        ∃ ρ' w', ((wantE N ops ρ o = some true ∧ known ρ o.op.operands.toList = true ∧ (∀ cs b, o.op ≠ .select cs b) ∧ ∃ v, runOp P (evalO ρ) o w = some (v, w') ∧ ρ' = ρ.put N o.dst v) ∨
          (wantE N ops ρ o = some false ∧ ρ' = ρ.put N o.dst undef ∧ w' = w)) ∧ K ρ' w' = some r := by
      intro ρ1 e h1 hw
      subst e
      exact ⟨_, w, .inr ⟨hw, rfl, rfl⟩, h1⟩
    split at h
    · rename_i hg
      exact run rfl h (by simp [wantE, hg])
    · rename_i j want hg
      split at h
      · rename_i hd
        exact skip rfl h (by simp [wantE, hg, hd])
      · rename_i d hd
        split at h
        · rename_i hdN
          split at h
          · rename_i b hb
            split at h
            · rename_i hbt
              subst hbt
              split at h
              · rename_i hw; subst hw
                exact run (put_same hb) h (by simp [wantE, hg, hd, hdN, hb])
              · rename_i hw
                exact skip (put_same hb) h (by simp [wantE, hg, hd, hdN, hb]; cases want <;> simp_all)
            · rename_i hbt
              have : b = false := by simpa using hbt
              subst this
              split at h
              · rename_i hw; subst hw
                exact skip (put_same hb) h (by simp [wantE, hg, hd, hdN, hb])
              · rename_i hw
                exact run (put_same hb) h (by simp [wantE, hg, hd, hdN, hb]; cases want <;> simp_all)
          · rename_i v hnb hv
            exact skip rfl h (by
              simp only [wantE, hg, hd, hdN, if_true, hv]
              try (cases v <;> first | rfl | exact absurd rfl (hnb _)))
          · cases h
        · rename_i hdN
          exact skip rfl h (by simp [wantE, hg, hd, hdN])

theorem evIdx_ok {β : Type} {P : Program} {N : Nat} {ops : Array Oper} {K : Env → World → Option β} {r : β} : ∀ {l : List Nat} {ρ : Env} {w : World},
    evIdx P N ops l ρ w K = some r → ∃ ρ' w', Exec P N ops l ρ w ρ' w' ∧ K ρ' w' = some r
  | [], ρ, w, h => ⟨ρ, w, ⟨rfl, rfl⟩, h⟩
  | i :: l, ρ, w, h => by
    obtain ⟨ρ1, w1, h1, h2⟩ := stepOp_ok h
    obtain ⟨ρ2, w2, h3, h4⟩ := evIdx_ok h2
    exact ⟨ρ2, w2, ⟨ρ1, w1, h1, h3⟩, h4⟩

theorem execOp_congr {ρ1 ρ2 : Operand → Value} {o : Oper} (hns : ∀ cs b, o.op ≠ .select cs b) (h : ∀ x ∈ o.op.operands.toList, ρ1 x = ρ2 x) : execOp ρ1 o = execOp ρ2 o := by
  have arr : ∀ (xs : Array Operand), (∀ x ∈ xs.toList, ρ1 x = ρ2 x) → xs.map ρ1 = xs.map ρ2 := by
    intro xs hx
    apply Array.map_congr_left
    intro x hm
    exact hx x (by simpa using hm)
  have opt : ∀ (x : Option Operand), (∀ y ∈ x.toArray.toList, ρ1 y = ρ2 y) → x.map ρ1 = x.map ρ2 := by
    intro x hx
    cases x with
    | none => rfl
    | some y => simp [hx y (by simp)]
  have res : ∀ (c : Call) (t : TypeId), (∀ x ∈ c.operands.toList, ρ1 x = ρ2 x) → resolve ρ1 c t = resolve ρ2 c t := by
    intro c t hc
    cases c with
    | mk callee args argTypes =>
    have ha : args.map ρ1 = args.map ρ2 := arr args fun x hx => hc x (by simp [Call.operands]; right; simpa using hx)
    cases callee with
    | value f => have hf : ρ1 f = ρ2 f := hc f (by simp [Call.operands]); simp only [resolve, ha, hf]
    | invoke r n => have hf : ρ1 r = ρ2 r := hc r (by simp [Call.operands]); simp only [resolve, ha, hf]
    | builtin b => simp only [resolve, ha]
  cases o with
  | mk dst op type pos after guard =>
  simp only at h
  cases op <;> simp only [execOp] <;> simp only [Op.operands] at h
  case move x => rw [h x (by simp)]
  case assign x => rw [h x (by simp)]
  case pick c a b => rw [h c (by simp), h a (by simp), h b (by simp)]
  case box e x => rw [h x (by simp)]
  case build t ps =>
    have : (ps.map fun (i, x) => (i, ρ1 x)) = ps.map fun (i, x) => (i, ρ2 x) := by
      apply Array.map_congr_left
      rintro ⟨i, x⟩ hm
      have := h x (by simp; exact ⟨i, by simpa using hm⟩)
      simp [this]
    rw [this]
  case buildSlice t n ps =>
    have : (ps.map fun (i, x) => (i, ρ1 x)) = ps.map fun (i, x) => (i, ρ2 x) := by
      apply Array.map_congr_left
      rintro ⟨i, x⟩ hm
      have := h x (by simp; exact ⟨i, by simpa using hm⟩)
      simp [this]
    rw [this]
  case insert t m k v => rw [h m (by simp), h k (by simp), h v (by simp)]
  case load t a => rw [h a (by simp)]
  case store t a v => rw [h a (by simp), h v (by simp)]
  case nilCheck x => rw [h x (by simp)]
  case binOp op t x y yt => rw [h x (by simp), h y (by simp)]
  case unOp op t x => rw [h x (by simp)]
  case convert s d x => rw [h x (by simp)]
  case sliceToArrayPointer d x => rw [h x (by simp)]
  case makeInterface t x => rw [h x (by simp)]
  case makeFunc fn a b =>
    rw [arr a (fun x hx => h x (by simp; left; simpa using hx)), arr b (fun x hx => h x (by simp; right; simpa using hx))]
  case makeMap t r => rw [opt r h]
  case makeChan t s => rw [h s (by simp)]
  case makeSlice t l c => rw [h l (by simp), h c (by simp)]
  case slice t x l hh m =>
    rw [h x (by simp), opt l (fun y hy => h y (by simp at hy ⊢; simp [hy])), opt hh (fun y hy => h y (by simp at hy ⊢; simp [hy])), opt m (fun y hy => h y (by simp at hy ⊢; simp [hy]))]
  case fieldAddr s x f => rw [h x (by simp)]
  case field s x f => rw [h x (by simp)]
  case indexAddr t x i => rw [h x (by simp), h i (by simp)]
  case index t x i => rw [h x (by simp), h i (by simp)]
  case lookup t x i ok => rw [h x (by simp), h i (by simp)]
  case mapUpdate t m k v => rw [h m (by simp), h k (by simp), h v (by simp)]
  case mapEntry t m k => rw [h m (by simp), h k (by simp)]
  case entryStore t m s v => rw [h m (by simp), h s (by simp), h v (by simp)]
  case range t x => rw [h x (by simp)]
  case next i s => rw [h i (by simp)]
  case entry i => rw [h i (by simp)]
  case typeAssert x a b c => rw [h x (by simp)]
  case extract t i => rw [h t (by simp)]
  case call c => rw [res c _ h]
  case go c => rw [res c _ h]
  case defer c => rw [res c _ h]
  case panic x => rw [h x (by simp)]
  case send a b => rw [h a (by simp), h b (by simp)]
  case recv t c ok => rw [h c (by simp)]
  case select cs bl => exact absurd rfl (hns cs bl)
/-! ## the frame in the model and here -/
structure Agree (N : Nat) (a : Act) (ρ : Env) : Prop where
  size : a.tmps.size = N
  defers : a.defers = []
  get : ∀ t v, ρ t = some v → a.tmps.getD t undef = v

theorem Agree.eval {N : Nat} {a : Act} {ρ : Env} (h : Agree N a ρ) {x : Operand} (hk : known1 ρ x = true) : a.eval x = evalO ρ x := by
  cases x with
  | tmp t =>
    simp only [known1] at hk
    obtain ⟨v, hv⟩ := Option.isSome_iff_exists.1 hk
    simp only [Act.eval, evalO, hv, Option.getD_some]
    exact h.get t v hv
  | const v => rfl
  | global g => rfl
  | func f => rfl

theorem Agree.put {N : Nat} {a : Act} {ρ : Env} (h : Agree N a ρ) (d : Option Tmp) (v : Value) : Agree N (a.put d v) (ρ.put N d v) := by
  cases d with
  | none => exact h
  | some d =>
    refine ⟨by simp [Act.put, h.size], h.defers, fun t u hu => ?_⟩
    have hs := h.size
    simp only [Act.put]
    cases hb : Nat.blt d N with
    | false =>
      have := blt_false hb
      rw [put_out hb] at hu
      rw [Array.setIfInBounds_eq_of_size_le (by omega)]; exact h.get t u hu
    | true =>
      have hlt := blt_true hb
      by_cases ht : t = d
      · subst ht
        rw [put_at hb] at hu
        simp only [Option.some.injEq] at hu
        subst hu
        simp [Array.getD_eq_getD_getElem?, hs, hlt]
      · rw [put_ne ht] at hu
        rw [← h.get t u hu]
        simp [Array.getD_eq_getD_getElem?, Ne.symm ht]

theorem Agree.wanted {N : Nat} {a : Act} {ρ : Env} (h : Agree N a ρ) {ops : Array Oper} {o : Oper} {b : Bool} (hw : wantE N ops ρ o = some b) :
    Region.wanted o (Go.yielded ops a.tmps) = b := by
  unfold wantE at hw
  unfold Region.wanted
  cases hg : o.guard with
  | none => rw [hg] at hw; simpa using hw
  | some g =>
    obtain ⟨j, want⟩ := g
    rw [hg] at hw
    simp only at hw ⊢
    unfold Go.yielded
    cases hd : (ops[j]?).bind (·.dst) with
    | none => rw [hd] at hw; simp at hw ⊢; exact hw
    | some d =>
      rw [hd] at hw
      simp only [Option.bind_some] at hw ⊢
      by_cases hlt : d < N
      · rw [if_pos hlt] at hw
        cases hv : ρ d with
        | none => rw [hv] at hw; cases hw
        | some v =>
          have hg := h.get d v hv
          have : a.tmps[d]? = some v := by
            have hs : d < a.tmps.size := by rw [h.size]; exact hlt
            rw [Array.getD_eq_getD_getElem?, Array.getElem?_eq_getElem hs] at hg
            rw [Array.getElem?_eq_getElem hs]
            simpa using hg
          rw [this]
          rw [hv] at hw
          cases v <;> simp at hw ⊢ <;> exact hw
      · rw [if_neg hlt] at hw
        have : a.tmps[d]? = none := by
          apply Array.getElem?_eq_none
          rw [h.size]
          exact Nat.le_of_not_lt hlt
        rw [this]
        simpa using hw

theorem wpOps_of_exec {P : Program} {N : Nat} {ops : Array Oper} {Q : Exit → Act → World → Prop} : ∀ {l : List Nat} {ρ ρ' : Env} {w w' : World} {a : Act},
    Agree N a ρ → Exec P N ops l ρ w ρ' w' → (∀ a', Agree N a' ρ' → Q .normal a' w') → wpOps P ops Q l a w
  | [], ρ, ρ', w, w', a, ha, he, hQ => by
    obtain ⟨rfl, rfl⟩ := he
    exact hQ a ha
  | i :: l, ρ, ρ', w, w', a, ha, he, hQ => by
    obtain ⟨ρ1, w1, hs, he1⟩ := he
    unfold Step at hs
    unfold wpOps
    cases ho : ops[i]? with
    | none =>
      rw [ho] at hs
      obtain ⟨rfl, rfl⟩ := hs
      exact wpOps_of_exec ha he1 hQ
    | some o =>
      rw [ho] at hs
      simp only at hs ⊢
      rcases hs with ⟨hw, hk, hns, v, h1, rfl⟩ | ⟨hw, rfl, rfl⟩
      · rw [if_pos (ha.wanted hw)]
        refine .inl (runOp_wp (v := v) (w' := w1) ?_ ?_)
        · unfold runOp at h1 ⊢
          rw [execOp_congr hns (fun x hx => ha.eval (List.all_eq_true.1 hk x hx))]
          exact h1
        · exact wpOps_of_exec (ha.put _ _) he1 hQ
      · rw [if_neg (by rw [ha.wanted hw]; simp)]
        exact wpOps_of_exec (ha.put _ _) he1 hQ
end Go.Ev
