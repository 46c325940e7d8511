/-
  An evaluator of the code of the model, in Option, and the proof that what it answers is what a call comes to, for whatever program: part Ev14. No condition.
-/
import Derived.Test.YtjcenfgmpbeldaaEv13
namespace Go.Ev
open Go
section
variable {P : Program} {N : Nat} {ops : Array Oper}

abbrev retE : Env → World → Option (Env × World) := fun ρ w => some (ρ, w)
def toE {β : Type} (K : Env → World → Option β) : Env × World → Option β := fun q => K q.1 q.2

theorem lin_E {β : Type} {f : (γ : Type) → (Value → World → Option γ) → Option γ} (hf : ∀ (γ : Type) (K : Value → World → Option γ), f γ K = (f _ ret2).bind (to2 K))
    {K : Env → World → Option β} {g : Value → Env} : f β (fun v w => K (g v) w) = (f _ (fun v w => retE (g v) w)).bind (toE K) := by
  rw [hf, hf (K := fun v w => retE (g v) w), Option.bind_assoc]
  rfl

theorem lin_stepOp {i : Nat} {ρ : Env} {w : World} {β : Type} {K : Env → World → Option β} : stepOp P N ops i ρ w K = (stepOp P N ops i ρ w retE).bind (toE K) := by
  unfold stepOp
  split
  · rfl
  · rename_i o ho
    have L : ∀ (ρ1 : Env), (if known ρ1 o.op.operands.toList = true then evOp P (evalO ρ1) o.op o.type w fun v w => K (ρ1.put N o.dst v) w else none) =
        (if known ρ1 o.op.operands.toList = true then evOp P (evalO ρ1) o.op o.type w fun v w => retE (ρ1.put N o.dst v) w else none).bind (toE K) := by
      intro ρ1
      split
      · exact lin_E (f := fun γ K => evOp P (evalO ρ1) o.op o.type w K) (fun _ _ => lin_evOp) (g := fun v => ρ1.put N o.dst v)
      · rfl
    simp only
    split
    · exact L ρ
    · split
      · rfl
      · split
        · split
          · split
            · split
              · exact L _
              · rfl
            · split
              · rfl
              · exact L _
          · rfl
          · rfl
        · rfl

theorem lin_evIdx : ∀ {l : List Nat} {ρ : Env} {w : World} {β : Type} {K : Env → World → Option β}, evIdx P N ops l ρ w K = (evIdx P N ops l ρ w retE).bind (toE K)
  | [], _, _, _, _ => rfl
  | i :: l, ρ, w, β, K => by
    simp only [evIdx]
    rw [lin_stepOp, lin_stepOp (K := fun ρ w => evIdx P N ops l ρ w retE), Option.bind_assoc]
    congr 1
    funext q
    exact lin_evIdx

theorem lin_readK {ρ : Operand → Value} {o : Op} {w : World} {β : Type} {K : Value → Option β} : evReadK P ρ o w K = (evReadK P ρ o w some).bind K := by
  cases o <;> simp only [evReadK] <;> try rfl
  case load =>
    split
    · exact lin_loadT
    · rfl
  case lookup => exact lin_evLookup
  case call =>
    split
    · split
      · exact bind_lin
      · rfl
    · rfl

theorem lin_EV {β : Type} {w : World} {f : (γ : Type) → (Value → Option γ) → Option γ} (hf : ∀ (γ : Type) (K : Value → Option γ), f γ K = (f _ some).bind K)
    {K : Env → World → Option β} {g : Value → Env} : f β (fun v => K (g v) w) = (f _ (fun v => retE (g v) w)).bind (toE K) := by
  rw [hf, hf (K := fun v => retE (g v) w), Option.bind_assoc]
  rfl

theorem lin_stepQ {i : Nat} {ρ : Env} {w : World} {β : Type} {K : Env → World → Option β} : stepQ P N ops i ρ w K = (stepQ P N ops i ρ w retE).bind (toE K) := by
  unfold stepQ
  split
  · rfl
  · rename_i o ho
    have L : ∀ (ρ1 : Env), (if known ρ1 o.op.operands.toList = true then (match clsOp P o.op with
        | 2 => evPureK P (evalO ρ1) o.op o.type (fun v => K (ρ1.put N o.dst v) w)
        | 1 => evReadK P (evalO ρ1) o.op w (fun v => K (ρ1.put N o.dst v) w)
        | _ => none) else none) = (if known ρ1 o.op.operands.toList = true then (match clsOp P o.op with
        | 2 => evPureK P (evalO ρ1) o.op o.type (fun v => retE (ρ1.put N o.dst v) w)
        | 1 => evReadK P (evalO ρ1) o.op w (fun v => retE (ρ1.put N o.dst v) w)
        | _ => none) else none).bind (toE K) := by
      intro ρ1
      split
      case isFalse => rfl
      split
      · exact lin_EV (f := fun γ K => evPureK P (evalO ρ1) o.op o.type K) (fun _ _ => lin_pure) (g := fun v => ρ1.put N o.dst v)
      · exact lin_EV (f := fun γ K => evReadK P (evalO ρ1) o.op w K) (fun _ _ => lin_readK) (g := fun v => ρ1.put N o.dst v)
      · rfl
    simp only
    split
    · exact L ρ
    · split
      · rfl
      · split
        · split
          · split
            · split
              · exact L _
              · rfl
            · split
              · rfl
              · exact L _
          · rfl
          · rfl
        · rfl

theorem lin_stepC {i : Nat} {ρ : Env} {w : World} {β : Type} {K : Env → World → Option β} : stepC P N ops i ρ w K = (stepC P N ops i ρ w retE).bind (toE K) := by
  unfold stepC
  split
  · exact lin_stepOp
  · exact lin_stepQ

theorem lin_br {L : List Nat} {β γ : Type} {f : Nat → Option β} {g : Nat → Option γ} {K : γ → Option β} (h : ∀ i, f i = (g i).bind K) : ∀ {rs : List Nat}, br L rs f = (br L rs g).bind K
  | [] => rfl
  | [a] => h a
  | a :: b :: l => by
    unfold br
    split
    · exact h a
    · exact lin_br h

theorem lin_evX {L : List Nat} : ∀ {n : Nat} {rem : List Nat} {ρ : Env} {w : World} {β : Type} {K : Env → World → Option β},
    evX P N ops L n rem ρ w K = (evX P N ops L n rem ρ w retE).bind (toE K)
  | 0, rem, ρ, w, β, K => by unfold evX; split <;> rfl
  | n + 1, rem, ρ, w, β, K => by
    unfold evX
    split
    · rfl
    · rename_i a rm
      have S : ∀ i, (stepC P N ops i ρ w fun ρ w => evX P N ops L n ((a :: rm).erase i) ρ w K) = (stepC P N ops i ρ w fun ρ w => evX P N ops L n ((a :: rm).erase i) ρ w retE).bind (toE K) := by
        intro i
        rw [lin_stepC, lin_stepC (K := fun ρ w => evX P N ops L n ((a :: rm).erase i) ρ w retE), Option.bind_assoc]
        congr 1
        funext q
        exact lin_evX
      split
      · exact S _
      · exact lin_br S

theorem lin_ev {f : Nat} {ann : List (List Nat × List Nat)} : ∀ (c : Code) {pt : List Nat} {ρ : Env} {w : World} {β : Type} {K : Exit → Env → World → Option β},
    ev P N f ann c pt K ρ w = (ev P N f ann c pt retX ρ w).bind (toX K)
  | .skip, _, _, _, _, _ => rfl
  | .region id ops draw, pt, ρ, w, β, K => by
    cases draw with
    | false =>
      simp only [ev]
      rw [lin_evIdx, lin_evIdx (K := retX .normal), Option.bind_assoc]
      rfl
    | true =>
      simp only [ev, evDraw]
      split
      · rw [lin_evX, lin_evX (K := retX .normal), Option.bind_assoc]
        rfl
      · rfl
  | .seq x y, pt, ρ, w, β, K => by
    simp only [ev]
    rw [lin_ev x]
    conv => rhs; rw [lin_ev x]
    rw [Option.bind_assoc]
    congr 1
    funext q
    obtain ⟨e, ρ1, w1⟩ := q
    cases e <;> first | exact lin_ev y | rfl
  | .cond c x y, pt, ρ, w, β, K => by
    simp only [ev]
    split
    · split
      · exact lin_ev x
      · exact lin_ev y
    · rfl
  | .block id c, pt, ρ, w, β, K => by
    simp only [ev]
    rw [lin_ev c]
    conv => rhs; rw [lin_ev c]
    rw [Option.bind_assoc]
    congr 1
    funext q
    obtain ⟨e, ρ1, w1⟩ := q
    cases e with
    | exit id' =>
      simp only [toX, blkK]
      split <;> rfl
    | _ => rfl
  | .loop c, pt, ρ, w, β, K => by
    simp only [ev]
    rw [Option.bind_assoc]
    rfl
  | .exit id, _, _, _, _, _ => rfl
  | .ret, _, _, _, _, _ => rfl
  | .label l, _, _, _, _, _ => rfl
  | .goto l, _, _, _, _, _ => rfl
  | .scope c, _, _, _, _, _ => rfl
  | .refuse s, _, _, _, _, _ => rfl
  | .rangeFunc g p x y, _, _, _, _, _ => rfl

/-! ## what code does not write -/
def opsWrite (ops : Array Oper) (d : Nat) : Bool := ops.toList.any fun o => o.dst == some d

def cWrites (d : Nat) : Code → Bool
  | .region _ ops _ => opsWrite ops d
  | .seq a b => cWrites d a || cWrites d b
  | .cond _ a b => cWrites d a || cWrites d b
  | .block _ c => cWrites d c
  | .loop c => cWrites d c
  | _ => false

theorem step_keeps {i d : Nat} {ρ ρ' : Env} {w w' : World} (hw : opsWrite ops d = false) (h : Step P N ops i ρ w ρ' w') : ρ' d = ρ d := by
  unfold Step at h
  cases ho : ops[i]? with
  | none => rw [ho] at h; rw [h.1]
  | some o =>
    rw [ho] at h
    have hd : ∀ x, o.dst = some x → d ≠ x := by
      intro x hx e
      subst e
      have hm : o ∈ ops.toList := by
        have := Array.mem_of_getElem? ho
        simpa using this
      have := List.any_eq_false.1 hw o hm
      simp [hx] at this
    simp only at h
    rcases h with ⟨_, _, _, v, _, rfl⟩ | ⟨_, rfl, _⟩
    · exact putD_ne hd
    · exact putD_ne hd

theorem exec_keeps {d : Nat} (hw : opsWrite ops d = false) : ∀ {l : List Nat} {ρ ρ' : Env} {w w' : World}, Exec P N ops l ρ w ρ' w' → ρ' d = ρ d
  | [], _, _, _, _, h => by rw [h.1]
  | _ :: _, _, _, _, _, ⟨_, _, h1, h2⟩ => (exec_keeps hw h2).trans (step_keeps hw h1)

/-- a slot that is known and not written stays; or it is forgotten -/
theorem ev_keeps {f d : Nat} {ann : List (List Nat × List Nat)} : ∀ (c : Code) {pt : List Nat} {ρ ρ' : Env} {w w' : World} {e : Exit}, cWrites d c = false → ev P N f ann c pt retX ρ w = some (e, ρ', w') →
    ∀ v, ρ' d = some v → ρ d = some v
  | .skip, _, _, _, _, _, _, _, h => by simp only [ev, retX, Option.some.injEq, Prod.mk.injEq] at h; rw [h.2.1]; exact fun _ h => h
  | .exit id, _, _, _, _, _, _, _, h => by simp only [ev, retX, Option.some.injEq, Prod.mk.injEq] at h; rw [h.2.1]; exact fun _ h => h
  | .ret, _, _, _, _, _, _, _, h => by simp only [ev, retX, Option.some.injEq, Prod.mk.injEq] at h; rw [h.2.1]; exact fun _ h => h
  | .label l, _, _, _, _, _, _, _, h => by simp only [ev, retX, Option.some.injEq, Prod.mk.injEq] at h; rw [h.2.1]; exact fun _ h => h
  | .goto l, _, _, _, _, _, _, _, h => by simp [ev] at h
  | .scope c, _, _, _, _, _, _, _, h => by simp [ev] at h
  | .refuse s, _, _, _, _, _, _, _, h => by simp [ev] at h
  | .rangeFunc g p x y, _, _, _, _, _, _, _, h => by simp [ev] at h
  | .region id ops draw, pt, ρ, ρ', w, w', e, hw, h => by
    cases draw with
    | false =>
      simp only [ev] at h
      obtain ⟨ρ1, w1, h1, h2⟩ := evIdx_ok h
      simp only [retX, Option.some.injEq, Prod.mk.injEq] at h2
      rw [← h2.2.1, exec_keeps hw h1]
      exact fun _ h => h
    | true =>
      simp only [ev, evDraw] at h
      split at h
      · rename_i hc
        simp only [Bool.and_eq_true] at hc
        have hv := schedule_valid hc.2 (w.tape w.drawn (.order f id))
        have hn := (hv.perm.nodup_iff).1 List.nodup_range
        obtain ⟨ρ1, w1, h1, h2⟩ := evX_ok hn List.nodup_range hv (List.Sublist.refl _) h
        simp only [retX, Option.some.injEq, Prod.mk.injEq] at h2
        rw [← h2.2.1, exec_keeps hw h1.exec]
        exact fun _ h => h
      · cases h
  | .seq x y, pt, ρ, ρ', w, w', e, hw, h => by
    simp only [cWrites, Bool.or_eq_false_iff] at hw
    simp only [ev] at h
    rw [lin_ev x] at h
    obtain ⟨⟨e1, ρ1, w1⟩, h1, h2⟩ := bind_some_iff' h
    have k1 := ev_keeps x hw.1 h1
    cases e1 <;> simp only [toX, seqK] at h2 <;> first
      | exact fun v hv => k1 v (ev_keeps y hw.2 h2 v hv)
      | (simp only [retX, Option.some.injEq, Prod.mk.injEq] at h2; rw [← h2.2.1]; exact k1)
  | .cond c x y, pt, ρ, ρ', w, w', e, hw, h => by
    simp only [cWrites, Bool.or_eq_false_iff] at hw
    simp only [ev] at h
    split at h
    · split at h
      · exact ev_keeps x hw.1 h
      · exact ev_keeps y hw.2 h
    · cases h
  | .block id c, pt, ρ, ρ', w, w', e, hw, h => by
    simp only [cWrites] at hw
    simp only [ev] at h
    rw [lin_ev c] at h
    obtain ⟨⟨e1, ρ1, w1⟩, h1, h2⟩ := bind_some_iff' h
    have k1 := ev_keeps c hw h1
    cases e1 with
    | exit id' =>
      simp only [toX, blkK] at h2
      split at h2 <;> (simp only [retX, Option.some.injEq, Prod.mk.injEq] at h2; rw [← h2.2.1]; exact k1)
    | _ => simp only [toX, blkK, retX, Option.some.injEq, Prod.mk.injEq] at h2; rw [← h2.2.1]; exact k1
  | .loop c, pt, ρ, ρ', w, w', e, hw, h => by
    simp only [cWrites] at hw
    simp only [ev] at h
    obtain ⟨⟨e1, ρ1, w1⟩, h1, h2⟩ := bind_some_iff' h
    simp only [toX, retX, Option.some.injEq, Prod.mk.injEq] at h2
    obtain ⟨rfl, rfl, rfl⟩ := h2
    obtain ⟨n, h3⟩ := loopD_iter h1
    have key : ∀ (n : Nat) (ρ : Env) (w : World), iterN N (annOf ann pt) (ev P N f ann c (0 :: pt) retX) n ρ w = some (e1, ρ1, w1) → ∀ v, ρ1 d = some v → ρ d = some v := by
      intro n
      induction n with
      | zero => intro ρ w h; cases h
      | succ n ih =>
        intro ρ w h
        unfold iterN at h
        split at h
        · cases h
        · rename_i ρ2 w2 hs
          exact fun v hv => ev_keeps c hw hs v (restr_sub (ih _ _ h v hv))
        · rename_i e2 ρ2 w2 hn hs
          simp only [Option.some.injEq, Prod.mk.injEq] at h
          obtain ⟨rfl, rfl, rfl⟩ := h
          exact fun v hv => ev_keeps c hw hs v (restr_sub hv)
    exact fun v hv => restr_sub (key n _ w h3 v hv)

end

/-! ## loops over a state of their own -/
def iterS {σ : Type} (b : σ → World → Option (Exit × σ × World)) : Nat → σ → World → Option (Exit × σ × World)
  | 0, _, _ => none
  | n + 1, s, w => match b s w with
    | none => none
    | some (.normal, s', w') => iterS b n s' w'
    | some (e, s', w') => some (e, s', w')

open Classical in
noncomputable def loopS {σ : Type} (b : σ → World → Option (Exit × σ × World)) (s : σ) (w : World) : Option (Exit × σ × World) :=
  if h : ∃ n r, iterS b n s w = some r then some h.choose_spec.choose else none

section
variable {σ : Type} {b : σ → World → Option (Exit × σ × World)}
theorem iterS_mono {r : Exit × σ × World} : ∀ {n m : Nat} {s : σ} {w : World}, iterS b n s w = some r → n ≤ m → iterS b m s w = some r
  | 0, _, _, _, h, _ => by cases h
  | n + 1, 0, _, _, _, hm => by omega
  | n + 1, m + 1, s, w, h, hm => by
    unfold iterS at h ⊢
    split at h
    · cases h
    · exact iterS_mono h (by omega)
    · exact h

theorem loopS_iter {s : σ} {w : World} {r : Exit × σ × World} (h : loopS b s w = some r) : ∃ n, iterS b n s w = some r := by
  unfold loopS at h
  split at h
  · rename_i hx
    simp only [Option.some.injEq] at h
    exact ⟨hx.choose, h ▸ hx.choose_spec.choose_spec⟩
  · cases h

theorem loopS_of_iter {s : σ} {w : World} {r : Exit × σ × World} {n : Nat} (h : iterS b n s w = some r) : loopS b s w = some r := by
  have hx : ∃ n r, iterS b n s w = some r := ⟨n, r, h⟩
  unfold loopS
  rw [dif_pos hx]
  have h1 := hx.choose_spec.choose_spec
  have h2 := iterS_mono h1 (Nat.le_max_left hx.choose n)
  have h3 := iterS_mono h (Nat.le_max_right hx.choose n)
  rw [h2] at h3
  exact h3

/-- a round that goes on -/
theorem loopS_next {s s' : σ} {w w' : World} {r : Exit × σ × World} (h : b s w = some (.normal, s', w')) (h' : loopS b s' w' = some r) : loopS b s w = some r := by
  obtain ⟨n, hn⟩ := loopS_iter h'
  refine loopS_of_iter (n := n + 1) ?_
  unfold iterS
  rw [h]
  exact hn

/-- the last round -/
theorem loopS_out {s s' : σ} {w w' : World} {e : Exit} (he : e ≠ .normal) (h : b s w = some (e, s', w')) : loopS b s w = some (e, s', w') := by
  refine loopS_of_iter (n := 1) ?_
  unfold iterS
  rw [h]
  cases e <;> first | exact absurd rfl he | rfl
end

def puts (N : Nat) (l : List (Nat × Value)) : Env := l.foldl (fun ρ p => ρ.put N (some p.1) p.2) fun _ => none

theorem restr_puts {N : Nat} {ρ : Env} {l : List (Nat × Value)} (h : ∀ p ∈ l, ρ p.1 = some p.2) : restr N (l.map (·.1)) ρ = puts N l := by
  have key : ∀ (l : List (Nat × Value)) (acc : Env), (∀ p ∈ l, ρ p.1 = some p.2) →
      (l.map (·.1)).foldl (fun acc t => match ρ t with | some v => acc.put N (some t) v | none => acc) acc = l.foldl (fun ρ p => ρ.put N (some p.1) p.2) acc := by
    intro l
    induction l with
    | nil => intro acc _; rfl
    | cons p l ih =>
      intro acc h
      simp only [List.map_cons, List.foldl_cons]
      rw [h p (by simp)]
      exact ih _ fun q hq => h q (by simp [hq])
  exact key l _ h

/-! ## slots that a loop changes, by their kinds -/
inductive SK where
  | i (k : IntKind) | b | s | p | sl | m | v

@[reducible] def SK.T : SK → Type
  | .i _ => Int
  | .b => Bool
  | .s => ByteArray
  | .p => Option Addr
  | .sl => Option Addr × Nat × Nat
  | .m => Option Nat
  | .v => Value

def SK.val : (k : SK) → k.T → Value
  | .i k, n => .int k n
  | .b, x => .bool x
  | .s, x => .string x
  | .p, x => .pointer x
  | .sl, x => .slice x.1 x.2.1 x.2.2
  | .m, x => .map x
  | .v, x => x

def SK.get : (k : SK) → Value → Option k.T
  | .i k, x => asI k x
  | .b, x => asB x
  | .s, x => asS x
  | .p, x => asP x
  | .sl, x => asSl x
  | .m, x => asM x
  | .v, x => some x

theorem getK_some {k : SK} {v : Value} {x : k.T} (h : k.get v = some x) : v = k.val x := by
  cases k <;> simp only [SK.get] at h
  case i k =>
    cases v <;> simp only [asI] at h <;> first | (cases h; done) | skip
    split at h
    · rename_i hk; subst hk; simp only [Option.some.injEq] at h; subst h; rfl
    · cases h
  case b => cases v <;> simp only [asB, Option.some.injEq] at h <;> first | (subst h; rfl) | cases h
  case s => cases v <;> simp only [asS, Option.some.injEq] at h <;> first | (subst h; rfl) | cases h
  case p => cases v <;> simp only [asP, Option.some.injEq] at h <;> first | (subst h; rfl) | cases h
  case sl => cases v <;> simp only [asSl, Option.some.injEq] at h <;> first | (subst h; rfl) | cases h
  case m => cases v <;> simp only [asM, Option.some.injEq] at h <;> first | (subst h; rfl) | cases h
  case v => simp only [Option.some.injEq] at h; subst h; rfl

@[reducible] def StT : List (Nat × SK) → Type
  | [] => Unit
  | [(_, k)] => k.T
  | (_, k) :: q :: l => k.T × StT (q :: l)

def sview : (l : List (Nat × SK)) → Env → Option (StT l)
  | [], _ => some ()
  | [(d, k)], ρ => (ρ d).bind k.get
  | (d, k) :: q :: l, ρ => ((ρ d).bind k.get).bind fun x => (sview (q :: l) ρ).bind fun r => some (x, r)

def sputs : (l : List (Nat × SK)) → StT l → List (Nat × Value)
  | [], _ => []
  | [(d, k)], x => [(d, k.val x)]
  | (d, k) :: q :: l, x => (d, k.val x.1) :: sputs (q :: l) x.2

theorem sview_puts : ∀ {l : List (Nat × SK)} {ρ : Env} {s : StT l}, sview l ρ = some s → ∀ p ∈ sputs l s, ρ p.1 = some p.2
  | [], _, _, _ => fun p hp => by simp [sputs] at hp
  | [(d, k)], ρ, s, h => fun p hp => by
    simp only [sputs, List.mem_cons, List.not_mem_nil, or_false] at hp
    subst hp
    obtain ⟨v, h1, h2⟩ := bind_some_iff' h
    rw [h1, getK_some h2]
  | (d, k) :: q :: l, ρ, s, h => fun p hp => by
    simp only [sview] at h
    obtain ⟨x, h1, h2⟩ := bind_some_iff' h
    obtain ⟨r, h3, h4⟩ := bind_some_iff' h2
    simp only [Option.some.injEq] at h4
    subst h4
    simp only [sputs] at hp
    rcases List.mem_cons.1 hp with rfl | hp
    · obtain ⟨v, h5, h6⟩ := bind_some_iff' h1
      simp only
      rw [h5, getK_some h6]
    · exact sview_puts h3 p hp

theorem sputs_keys : ∀ {l : List (Nat × SK)} {s : StT l}, (sputs l s).map (·.1) = l.map (·.1)
  | [], _ => rfl
  | [_], _ => rfl
  | (_, _) :: q :: l, s => by
    simp only [sputs, List.map_cons]
    exact congrArg _ (sputs_keys (l := q :: l))

/-- how a round ends: its exit, the slots that are written, the world -/
def loopK (sl : List (Nat × SK)) : Exit → Env → World → Option (Exit × StT sl × World) :=
  fun e ρ w => (sview sl ρ).bind fun s => some (e, s, w)

/-- a loop at its beginning, as a program's print has it -/
noncomputable def loopM {β : Type} (P : Program) (N f : Nat) (ann : List (List Nat × List Nat)) (body : Code) (pt : List Nat) (K : Exit → Env → World → Option β) (l : List (Nat × Value)) (w : World) : Option β :=
  (loopD N (l.map (·.1)) (ev P N f ann body (0 :: pt) retX) (puts N l) w).bind (toX K)

def nodupB : List Nat → Bool
  | [] => true
  | x :: l => l.all (fun y => !(Nat.beq x y)) && nodupB l

theorem nodup_of_nodupB : ∀ {l : List Nat}, nodupB l = true → l.Nodup
  | [], _ => List.nodup_nil
  | x :: l, h => by
    simp only [nodupB, Bool.and_eq_true] at h
    refine List.nodup_cons.2 ⟨fun hm => ?_, nodup_of_nodupB h.2⟩
    have := List.all_eq_true.1 h.1 x hm
    simp at this

theorem loop_rule {P : Program} {N f : Nat} {ann : List (List Nat × List Nat)} {body : Code} {pt : List Nat} {β : Type} {K : Exit → Env → World → Option β} (cs : List (Nat × Value)) (sl : List (Nat × SK))
    {b : StT sl → World → Option (Exit × StT sl × World)}
    (hb : ∀ s w, ev P N f ann body (0 :: pt) (fun e ρ w => ((cs.map (·.1)).mapM ρ).bind fun _ => loopK sl e ρ w) (puts N (cs ++ sputs sl s)) w = b s w)
    (hn : ((cs ++ sl.map fun p => (p.1, undef)).all fun p => Nat.blt p.1 N) = true)
    (hdb : nodupB (cs.map (·.1) ++ sl.map (·.1)) = true)
    (hw : (cs.all fun p => !cWrites p.1 body) = true)
    {s s' : StT sl} {w w' : World} {e : Exit} (h : loopS b s w = some (e, s', w')) :
    loopM P N f ann body pt K (cs ++ sputs sl s) w = K e (puts N (cs ++ sputs sl s')) w' := by
  have hd := nodup_of_nodupB hdb
  obtain ⟨n, hit⟩ := loopS_iter h
  have hkeys : ∀ s : StT sl, (cs ++ sputs sl s).map (·.1) = cs.map (·.1) ++ sl.map (·.1) := fun s => by rw [List.map_append, sputs_keys]
  have hget : ∀ s : StT sl, ∀ p ∈ cs ++ sputs sl s, puts N (cs ++ sputs sl s) p.1 = some p.2 := by
    have gen : ∀ (l : List (Nat × Value)) (acc : Env), (l.map (·.1)).Nodup → (∀ p ∈ l, Nat.blt p.1 N = true) →
        (∀ p ∈ l, l.foldl (fun ρ p => ρ.put N (some p.1) p.2) acc p.1 = some p.2) ∧ (∀ t, t ∉ l.map (·.1) → l.foldl (fun ρ p => ρ.put N (some p.1) p.2) acc t = acc t) := by
      intro l
      induction l with
      | nil => intro acc _ _; exact ⟨fun p hp => (by cases hp), fun _ _ => rfl⟩
      | cons q l ih =>
        intro acc hd hN
        simp only [List.map_cons, List.nodup_cons] at hd
        obtain ⟨i1, i2⟩ := ih (acc.put N (some q.1) q.2) hd.2 fun p hp => hN p (by simp [hp])
        simp only [List.foldl_cons]
        refine ⟨fun p hp => ?_, fun t ht => ?_⟩
        · rcases List.mem_cons.1 hp with rfl | hp
          · rw [i2 _ hd.1, put_at (hN p (by simp))]
          · exact i1 p hp
        · simp only [List.map_cons, List.mem_cons, not_or] at ht
          rw [i2 _ ht.2, put_ne ht.1]
    intro s p hp
    refine (gen _ _ (by rw [hkeys]; exact hd) ?_).1 p hp
    intro q hq
    have : q.1 ∈ cs.map (·.1) ++ sl.map (·.1) := by rw [← hkeys s]; exact List.mem_map_of_mem hq
    have hall := List.all_eq_true.1 hn
    rcases List.mem_append.1 this with hq' | hq'
    · obtain ⟨x, hx, hxe⟩ := List.mem_map.1 hq'
      rw [← hxe]
      exact hall x (List.mem_append.2 (.inl hx))
    · obtain ⟨x, hx, hxe⟩ := List.mem_map.1 hq'
      rw [← hxe]
      exact hall (x.1, undef) (List.mem_append.2 (.inr (List.mem_map.2 ⟨x, hx, rfl⟩)))
  have hround : ∀ (s : StT sl) (w : World) (e : Exit) (s2 : StT sl) (w2 : World), b s w = some (e, s2, w2) →
      ∃ ρ1, ev P N f ann body (0 :: pt) retX (puts N (cs ++ sputs sl s)) w = some (e, ρ1, w2) ∧ restr N (cs.map (·.1) ++ sl.map (·.1)) ρ1 = puts N (cs ++ sputs sl s2) := by
    intro s w e s2 w2 hs
    have hbs := hb s w
    rw [hs, lin_ev] at hbs
    obtain ⟨⟨e1, ρ1, w1⟩, h1, h2⟩ := bind_some_iff' hbs
    simp only [toX] at h2
    obtain ⟨vs, h3, h4⟩ := bind_some_iff' h2
    unfold loopK at h4
    obtain ⟨s3, h5, h6⟩ := bind_some_iff' h4
    simp only [Option.some.injEq, Prod.mk.injEq] at h6
    obtain ⟨rfl, rfl, rfl⟩ := h6
    refine ⟨ρ1, h1, ?_⟩
    rw [← hkeys s3]
    refine restr_puts fun p hp => ?_
    rcases List.mem_append.1 hp with hp | hp
    · have hk : ∃ v, ρ1 p.1 = some v := by
        have gen : ∀ (ks : List Nat) (vs : List Value), ks.mapM ρ1 = some vs → ∀ t ∈ ks, ∃ v, ρ1 t = some v := by
          intro ks
          induction ks with
          | nil => intro _ _ t ht; cases ht
          | cons k ks ih =>
            intro vs h t ht
            rw [List.mapM_cons] at h
            cases hk : ρ1 k with
            | none => rw [hk] at h; cases h
            | some v =>
              rcases List.mem_cons.1 ht with rfl | ht
              · exact ⟨v, hk⟩
              · rw [hk] at h
                cases hm : ks.mapM ρ1 with
                | none => simp [hm] at h
                | some us => exact ih us hm t ht
        exact gen _ _ h3 p.1 (List.mem_map_of_mem hp)
      obtain ⟨v, hv⟩ := hk
      have hcw := List.all_eq_true.1 hw p hp
      have h0 := ev_keeps body (by simpa using hcw) h1 v hv
      rw [hget s p (List.mem_append.2 (.inl hp))] at h0
      rw [hv, ← h0]
    · exact sview_puts h5 p hp
  have key : ∀ (n : Nat) (s : StT sl) (w : World), iterS b n s w = some (e, s', w') →
      iterN N (cs.map (·.1) ++ sl.map (·.1)) (ev P N f ann body (0 :: pt) retX) n (puts N (cs ++ sputs sl s)) w = some (e, puts N (cs ++ sputs sl s'), w') := by
    intro n
    induction n with
    | zero => intro s w h; cases h
    | succ n ih =>
      intro s w h
      unfold iterS at h
      unfold iterN
      split at h
      · cases h
      · rename_i s2 w2 hs
        obtain ⟨ρ1, h1, h2⟩ := hround _ _ _ _ _ hs
        rw [h1]
        simp only
        rw [h2]
        exact ih _ _ h
      · rename_i e2 s2 w2 hne hs
        simp only [Option.some.injEq, Prod.mk.injEq] at h
        obtain ⟨rfl, rfl, rfl⟩ := h
        obtain ⟨ρ1, h1, h2⟩ := hround _ _ _ _ _ hs
        rw [h1]
        cases e2 <;> first | exact absurd rfl hne | (simp only; rw [h2])
  unfold loopM
  rw [hkeys, loopD_of_iter (key n s w hit)]
  rfl

/-! ## names for the generated texts -/
def bodyOf (fn : Func) : Code := fn.body.getD .skip

def cAt : List Nat → Code → Code
  | [], c => c
  | i :: l, .seq a b => match i with
    | 0 => cAt l a
    | _ => cAt l b
  | i :: l, .cond _ a b => match i with
    | 0 => cAt l a
    | _ => cAt l b
  | _ :: l, .block _ c => cAt l c
  | _ :: l, .loop c => cAt l c
  | _ :: _, _ => .skip

def opsOf : Code → Array Oper
  | .region _ ops _ => ops
  | _ => #[]

def zcells (P : Program) (t : TypeId) : Array Value := ((zc P t).getD undef).cells
end Go.Ev
