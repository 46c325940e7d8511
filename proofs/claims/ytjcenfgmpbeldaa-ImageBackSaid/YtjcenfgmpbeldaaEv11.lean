/-
  An evaluator of the code of the model, in Option, and the proof that what it answers is what a call comes to, for whatever program: part Ev11. No condition.
-/
import Derived.Test.YtjcenfgmpbeldaaEv10
namespace Go.Ev
open Go

/-- what is known of so many slots, and of no others -/
def restr (N : Nat) (X : List Nat) (ρ : Env) : Env :=
  X.foldl (fun acc t => match ρ t with | some v => acc.put N (some t) v | none => acc) fun _ => none

theorem restr_sub {N : Nat} {X : List Nat} {ρ : Env} : ∀ {t : Nat} {v : Value}, restr N X ρ t = some v → ρ t = some v := by
  have key : ∀ (X : List Nat) (acc : Env), (∀ t v, acc t = some v → ρ t = some v) →
      ∀ t v, (X.foldl (fun acc t => match ρ t with | some v => acc.put N (some t) v | none => acc) acc) t = some v → ρ t = some v := by
    intro X
    induction X with
    | nil => intro acc h; exact h
    | cons x X ih =>
      intro acc h
      simp only [List.foldl_cons]
      refine ih _ ?_
      intro t v ht
      cases hx : ρ x with
      | none => rw [hx] at ht; exact h t v ht
      | some u =>
        rw [hx] at ht
        simp only at ht
        by_cases e : t = x
        · subst e
          cases hb : Nat.blt t N with
          | true => rw [put_at hb] at ht; rw [hx]; exact ht
          | false => rw [put_out hb] at ht; exact h _ _ ht
        · rw [put_ne e] at ht; exact h _ _ ht
  intro t v h
  exact key X _ (fun _ _ h => by cases h) t v h

/-- a loop: its rounds, till one ends otherwise than by going round -/
def iterN (N : Nat) (X : List Nat) (step : Env → World → Option (Exit × Env × World)) : Nat → Env → World → Option (Exit × Env × World)
  | 0, _, _ => none
  | n + 1, ρ, w => match step ρ w with
    | none => none
    | some (.normal, ρ', w') => iterN N X step n (restr N X ρ') w'
    | some (e, ρ', w') => some (e, restr N X ρ', w')

open Classical in
noncomputable def loopD (N : Nat) (X : List Nat) (step : Env → World → Option (Exit × Env × World)) (ρ : Env) (w : World) : Option (Exit × Env × World) :=
  if h : ∃ n r, iterN N X step n ρ w = some r then some h.choose_spec.choose else none

section
variable {N : Nat} {X : List Nat} {step : Env → World → Option (Exit × Env × World)}

theorem loopD_iter {ρ : Env} {w : World} {r : Exit × Env × World} (h : loopD N X step ρ w = some r) : ∃ n, iterN N X step n ρ w = some r := by
  unfold loopD at h
  split at h
  · rename_i hx
    simp only [Option.some.injEq] at h
    exact ⟨hx.choose, h ▸ hx.choose_spec.choose_spec⟩
  · cases h

theorem iterN_mono {r : Exit × Env × World} : ∀ {n m : Nat} {ρ : Env} {w : World}, iterN N X step n ρ w = some r → n ≤ m → iterN N X step m ρ w = some r
  | 0, _, _, _, h, _ => by cases h
  | n + 1, 0, _, _, _, hm => by omega
  | n + 1, m + 1, ρ, w, h, hm => by
    unfold iterN at h ⊢
    split at h
    · cases h
    · exact iterN_mono h (by omega)
    · exact h

theorem loopD_of_iter {ρ : Env} {w : World} {r : Exit × Env × World} {n : Nat} (h : iterN N X step n ρ w = some r) : loopD N X step ρ w = some r := by
  have hx : ∃ n r, iterN N X step n ρ w = some r := ⟨n, r, h⟩
  unfold loopD
  rw [dif_pos hx]
  have h1 := hx.choose_spec.choose_spec
  have h2 := iterN_mono h1 (Nat.le_max_left hx.choose n)
  have h3 := iterN_mono h (Nat.le_max_right hx.choose n)
  rw [h2] at h3
  exact h3

theorem iterN_exit {r : Exit × Env × World} : ∀ {n : Nat} {ρ : Env} {w : World}, iterN N X step n ρ w = some r → r.1 ≠ .normal
  | 0, _, _, h => by cases h
  | n + 1, ρ, w, h => by
    unfold iterN at h
    split at h
    · cases h
    · exact iterN_exit h
    · rename_i e ρ' w' hn hs
      simp only [Option.some.injEq] at h
      subst h
      intro e1
      simp only at e1
      subst e1
      exact hn rfl
end

/-- a region whose order is drawn -/
noncomputable def evDraw {β : Type} (P : Program) (N : Nat) (f id : Nat) (ops : Array Oper) (ρ : Env) (w : World) (K : Env → World → Option β) : Option β :=
  if (P.follows .mixedOrders && backward ops) = true then
    evX P N ops (Region.schedule true ops (w.tape w.drawn (.order f id))) ops.size (List.range ops.size) ρ w.drew K
  else none

/-- what comes behind the first of two -/
def seqK {β : Type} (n : Env → World → Option β) (K : Exit → Env → World → Option β) : Exit → Env → World → Option β :=
  fun e ρ w => match e with
    | .normal => n ρ w
    | e => K e ρ w

def blkK {β : Type} (id : Nat) (K : Exit → Env → World → Option β) : Exit → Env → World → Option β :=
  fun e ρ w => match e with
    | .exit id' => (if id' = id then K .normal ρ w else K (.exit id') ρ w)
    | e => K e ρ w

abbrev retX : Exit → Env → World → Option (Exit × Env × World) := fun e ρ w => some (e, ρ, w)
def toX {β : Type} (K : Exit → Env → World → Option β) : Exit × Env × World → Option β := fun q => K q.1 q.2.1 q.2.2

def getO (ρ : Env) : Operand → Option Value
  | .tmp t => ρ t
  | .const v => some v
  | _ => none

/-- the slots that matter in a loop, by its place -/
def annOf (ann : List (List Nat × List Nat)) (pt : List Nat) : List Nat :=
  match ann.lookup pt with
  | some l => l
  | none => []

/-- code -/
noncomputable def ev (P : Program) (N f : Nat) (ann : List (List Nat × List Nat)) : Code → List Nat → {β : Type} → (Exit → Env → World → Option β) → Env → World → Option β
  | .skip, _, _, K, ρ, w => K .normal ρ w
  | .region id ops draw, _, _, K, ρ, w =>
    match draw with
    | true => evDraw P N f id ops ρ w (K .normal)
    | false => evIdx P N ops (List.range ops.size) ρ w (K .normal)
  | .seq a b, pt, _, K, ρ, w => ev P N f ann a (0 :: pt) (seqK (ev P N f ann b (1 :: pt) K) K) ρ w
  | .cond c a b, pt, _, K, ρ, w => match getO ρ c with
    | some (.bool t) => if t = true then ev P N f ann a (0 :: pt) K ρ w else ev P N f ann b (1 :: pt) K ρ w
    | _ => none
  | .block id c, pt, _, K, ρ, w => ev P N f ann c (0 :: pt) (blkK id K) ρ w
  | .loop c, pt, _, K, ρ, w => (loopD N (annOf ann pt) (ev P N f ann c (0 :: pt) retX) (restr N (annOf ann pt) ρ) w).bind (toX K)
  | .exit id, _, _, K, ρ, w => K (.exit id) ρ w
  | .ret, _, _, K, ρ, w => K .ret ρ w
  | .label _, _, _, K, ρ, w => K .normal ρ w
  | _, _, _, _, _, _ => none

theorem wp_region_draw' {P : Program} {id : Nat} {ops : Array Oper} {Q : Exit → Act → World → Prop} {a : Act} {w : World} {f : Nat}
    (h : wpOps P ops Q (Region.schedule (P.follows .mixedOrders) ops (w.tape w.drawn (.order f id))) a w.drew) (b : Frame) (hb : b.fn = f) (k : List Item) (cs : List Frame) :
    ∃ e a' w', Q e a' w' ∧ Arrives P (lone (b.at a (.code (.region id ops true) :: k)) cs w) b k cs e a' w' := by
  subst hb
  obtain ⟨e, a', w', q, r⟩ := wp_ops _ a _ h b k cs
  exact ⟨e, a', w', q, .of_steps (.one step_region_draw) r⟩

/-- 'Code.wp' in a frame of one function -/
def wpF (P : Program) (f : Nat) (c : Code) (Q : Exit → Act → World → Prop) (a : Act) (w : World) : Prop :=
  ∀ (b : Frame) (k : List Item) (cs : List Frame), b.fn = f →
    ∃ e a' w', Q e a' w' ∧ Arrives P (lone (b.at a (.code c :: k)) cs w) b k cs e a' w'
end Go.Ev
