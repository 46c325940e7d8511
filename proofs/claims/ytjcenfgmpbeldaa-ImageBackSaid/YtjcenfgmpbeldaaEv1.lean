/-
  An evaluator of the code of the model, in Option, and the proof that what it answers is what a call comes to, for whatever program: part Ev1. No condition.
-/
import Derived.Calls
import Derived.LoopN
import Derived.Laws.World
import Derived.KernelRfl
namespace Go.Ev
open Go

/-- what is known of a frame's slots -/
abbrev Env := Nat → Option Value

def Env.put (N : Nat) (ρ : Env) (d : Option Tmp) (v : Value) : Env :=
  match d with
  | some d => bif Nat.blt d N then (fun t => bif Nat.beq t d then some v else ρ t) else ρ
  | none => ρ

def evalO (ρ : Env) : Operand → Value
  | .tmp t => (ρ t).getD undef
  | .const v => v
  | .global g => .pointer (some ⟨g, 0, none⟩)
  | .func f => .func (.func f) #[] #[]

def known1 (ρ : Env) : Operand → Bool
  | .tmp t => (ρ t).isSome
  | _ => true

def known (ρ : Env) (xs : List Operand) : Bool := xs.all (known1 ρ)

open Classical in
noncomputable def R (P : Program) (f : FuncId) (args : Array Value) (w : World) : Option (Value × World) :=
  if h : ∃ r : Value × World, Calls P f args w (fun e w' => e = .returned r.1 ∧ w' = r.2) then some h.choose else none

theorem calls_of_R {P : Program} {f : FuncId} {args : Array Value} {w w' : World} {v : Value} (h : R P f args w = some (v, w')) :
    Calls P f args w (fun e w1 => e = .returned v ∧ w1 = w') := by
  unfold R at h
  split at h
  · rename_i hx
    have := hx.choose_spec
    simp only [Option.some.injEq] at h
    rw [h] at this
    exact this
  · cases h

theorem R_of_calls {P : Program} {f : FuncId} {args : Array Value} {w w' : World} {v : Value} (hi : P.inits.idxOf? f = none)
    (h : Calls P f args w (fun e w1 => e = .returned v ∧ w1 = w')) : R P f args w = some (v, w') := by
  have hx : ∃ r : Value × World, Calls P f args w (fun e w' => e = .returned r.1 ∧ w' = r.2) := ⟨(v, w'), h⟩
  unfold R
  rw [dif_pos hx]
  have h2 := hx.choose_spec
  generalize hx.choose = r at h2
  have key : ∀ (v1 : Value) (w1 : World), Calls P f args w (fun e w' => e = .returned v1 ∧ w' = w1) →
      ∃ n, runN P n (lone (Frame.enter P f args .normal) [] w) = .ended (.done v1) w1 := by
    intro v1 w1 hc
    obtain ⟨n, v2, w2, hr, rfl, rfl⟩ := Calls.done (R := fun v w' => v = v1 ∧ w' = w1) (hc.mono (by rintro e w' ⟨rfl, rfl⟩; exact ⟨rfl, rfl⟩)) hi
    exact ⟨n, hr⟩
  obtain ⟨n, hn⟩ := key _ _ h
  obtain ⟨m, hm⟩ := key _ _ h2
  have ended : ∀ (a b : Nat) (mm : Machine) (o : Outcome) (w : World), runN P a mm = .ended o w → runN P (a + b) mm = .ended o w := by
    intro a b mm o w ha
    rw [runN_add, ha]
  have h3 := ended n m _ _ _ hn
  have h4 := ended m n _ _ _ hm
  rw [Nat.add_comm] at h4
  rw [h3] at h4
  injection h4 with e1 e2
  injection e1 with e1
  rw [e1, e2]

noncomputable def nextR (P : Program) : Result Next → Option (Value × World)
  | .ok (.value v) w => some (v, w)
  | .ok .skip w => some (undef, w)
  | .ok (.enter f args) w => R P f args w
  | _ => none

noncomputable def runOp (P : Program) (ρ : Operand → Value) (o : Oper) (w : World) : Option (Value × World) :=
  nextR P ((execOp ρ o).run P w)

theorem runOp_wp {P : Program} {o : Oper} {a : Act} {w w' : World} {v : Value} {next : Act → World → Prop} {Q : Exit → Act → World → Prop}
    (h : runOp P a.eval o w = some (v, w')) (hn : next (a.put o.dst v) w') : o.wp P a w next Q := by
  unfold runOp at h
  unfold Oper.wp
  generalize (execOp a.eval o).run P w = r at h
  match r, h with
  | .ok (.value v1) w1, h =>
    simp only [nextR, Option.some.injEq, Prod.mk.injEq] at h
    obtain ⟨rfl, rfl⟩ := h
    exact hn
  | .ok .skip w1, h =>
    simp only [nextR, Option.some.injEq, Prod.mk.injEq] at h
    obtain ⟨rfl, rfl⟩ := h
    exact hn
  | .ok (.enter f args) w1, h =>
    simp only [nextR] at h
    show Calls P f args w1 _
    refine (calls_of_R h).mono ?_
    rintro e w2 ⟨rfl, rfl⟩
    exact hn

/-! typed readings of a value -/
def asB : Value → Option Bool
  | .bool b => some b
  | _ => none
def asI (k : IntKind) : Value → Option Int
  | .int k' n => if k' = k then some n else none
  | _ => none
def asS : Value → Option ByteArray
  | .string s => some s
  | _ => none
def asP : Value → Option (Option Addr)
  | .pointer p => some p
  | _ => none
def asSl : Value → Option (Option Addr × Nat × Nat)
  | .slice a n c => some (a, n, c)
  | _ => none
def asM : Value → Option (Option Nat)
  | .map m => some m
  | _ => none
def asTup (n : Nat) : Value → Option (List Value)
  | .tuple vs => if vs.toList.length = n then some vs.toList else none
  | _ => none
def asAgg (n : Nat) : Value → Option (List Value)
  | .agg vs => if vs.toList.length = n then some vs.toList else none
  | _ => none

def leaves (P : Program) : Nat → TypeId → List TypeId
  | 0, t => [t]
  | d + 1, t => match P.underlying t with
    | some (.struct fs) => fs.toList.flatMap fun f => leaves P d f.type
    | some (.array n e) => (List.replicate n (leaves P d e)).flatten
    | _ => [t]

section
variable {β : Type}

def castLeaf (P : Program) (t : TypeId) (v : Value) (K : Value → Option β) : Option β :=
  match P.underlying t with
  | some .bool => (asB v).bind fun b => K (.bool b)
  | some (.int k) => (asI k v).bind fun n => K (.int k n)
  | some .string => (asS v).bind fun s => K (.string s)
  | some (.pointer _) => (asP v).bind fun p => K (.pointer p)
  | some .unsafePointer => (asP v).bind fun p => K (.pointer p)
  | some (.slice _) => (asSl v).bind fun s => K (.slice s.1 s.2.1 s.2.2)
  | some (.map _ _) => (asM v).bind fun m => K (.map m)
  | _ => K v

theorem castLeaf_ok {P : Program} {t : TypeId} {v : Value} {K : Value → Option β} {r : β} (h : castLeaf P t v K = some r) : K v = some r := by
  unfold castLeaf at h
  split at h
  · cases v <;> first | exact h | cases h
  · cases v <;> first
      | (simp only [asI] at h; split at h <;> first | (subst_vars; exact h) | cases h)
      | cases h
  · cases v <;> first | exact h | cases h
  · cases v <;> first | exact h | cases h
  · cases v <;> first | exact h | cases h
  · cases v <;> first | exact h | cases h
  · cases v <;> first | exact h | cases h
  · exact h

def castList (P : Program) (l : List Value) : Nat → List TypeId → (List Value → Option β) → Option β
  | _, [], K => K []
  | i, t :: ts, K => castLeaf P t (l.getD i undef) fun v => castList P l (i + 1) ts fun vs => K (v :: vs)

theorem castList_ok {P : Program} {l : List Value} {r : β} : ∀ {ts : List TypeId} {i : Nat} {K : List Value → Option β},
    l.length = i + ts.length → castList P l i ts K = some r → K (l.drop i) = some r
  | [], i, K, hl, h => by
    have : l.drop i = [] := List.drop_eq_nil_of_le (by simp at hl; omega)
    rw [this]; exact h
  | t :: ts, i, K, hl, h => by
    simp only [List.length_cons] at hl
    have h1 := castLeaf_ok h
    have h2 := castList_ok (by omega) h1
    have hi : i < l.length := by omega
    rw [List.drop_eq_getElem_cons hi]
    have : l.getD i undef = l[i] := by simp [List.getD, hi]
    rw [← this]; exact h2

/-- a value of a type that is no tuple -/
def castV (P : Program) (t : TypeId) (v : Value) (K : Value → Option β) : Option β :=
  match P.underlying t with
  | some (.struct _) => (asAgg (leaves P 8 t).length v).bind fun l => castList P l 0 (leaves P 8 t) fun vs => K (.agg vs.toArray)
  | _ => castLeaf P t v K

theorem castV_ok {P : Program} {t : TypeId} {v : Value} {K : Value → Option β} {r : β} (h : castV P t v K = some r) : K v = some r := by
  unfold castV at h
  split at h
  · cases v <;> try (cases h; done)
    rename_i cs
    simp only [asAgg] at h
    split at h
    · rename_i hl
      have := castList_ok (by simpa using hl) h
      simpa using this
    · cases h
  · exact castLeaf_ok h

def castVs (P : Program) (l : List Value) : Nat → List TypeId → (List Value → Option β) → Option β
  | _, [], K => K []
  | i, t :: ts, K => castV P t (l.getD i undef) fun v => castVs P l (i + 1) ts fun vs => K (v :: vs)

theorem castVs_ok {P : Program} {l : List Value} {r : β} : ∀ {ts : List TypeId} {i : Nat} {K : List Value → Option β},
    l.length = i + ts.length → castVs P l i ts K = some r → K (l.drop i) = some r
  | [], i, K, hl, h => by
    have : l.drop i = [] := List.drop_eq_nil_of_le (by simp at hl; omega)
    rw [this]; exact h
  | t :: ts, i, K, hl, h => by
    simp only [List.length_cons] at hl
    have h1 := castV_ok h
    have h2 := castVs_ok (by omega) h1
    have hi : i < l.length := by omega
    rw [List.drop_eq_getElem_cons hi]
    have : l.getD i undef = l[i] := by simp [List.getD, hi]
    rw [← this]; exact h2

/-- what a call hands back, a tuple too -/
def castT (P : Program) (t : TypeId) (v : Value) (K : Value → Option β) : Option β :=
  match P.underlying t with
  | some (.tuple ts) => (asTup ts.toList.length v).bind fun l => castVs P l 0 ts.toList fun vs => K (.tuple vs.toArray)
  | _ => castV P t v K

theorem castT_ok {P : Program} {t : TypeId} {v : Value} {K : Value → Option β} {r : β} (h : castT P t v K = some r) : K v = some r := by
  unfold castT at h
  split at h
  · cases v <;> try (cases h; done)
    rename_i cs
    simp only [asTup] at h
    split at h
    · rename_i hl
      have := castVs_ok (by simpa using hl) h
      simpa using this
    · cases h
  · exact castV_ok h
end
end Go.Ev
