/-
  An evaluator of the code of the model, in Option, and the proof that what it answers is what a call comes to, for whatever program: part Ev1. No condition.
-/
import Derived.Calls
import Derived.CallsIn
import Derived.LoopN
import Derived.Laws.World
import Derived.KernelRfl
namespace Go.Ev
open Go

/-- what is known of a frame's slots -/
abbrev Env := Nat → Option Value

def Env.put (N : Nat) (ρ : Env) (d : Option Tmp) (v : Value) : Env :=
  match d with
  | some d => bif Nat.blt d N then (fun t => bif Nat.beq t d then some v else ρ t) else ρ
  | none => ρ

def evalO (ρ : Env) : Operand → Value
  | .tmp t => (ρ t).getD undef
  | .const v => v
  | .global g => .pointer (some ⟨g, 0, none⟩)
  | .func f => .func (.func f) #[] #[]

def known1 (ρ : Env) : Operand → Bool
  | .tmp t => (ρ t).isSome
  | _ => true

def known (ρ : Env) (xs : List Operand) : Bool := xs.all (known1 ρ)

open Classical in
noncomputable def R (P : Program) (f : FuncId) (args : Array Value) (w : World) : Option (Value × World) :=
  if h : ∃ r : Value × World, Calls P f args w (fun e w' => e = .returned r.1 ∧ w' = r.2) then some h.choose else none

theorem calls_of_R {P : Program} {f : FuncId} {args : Array Value} {w w' : World} {v : Value} (h : R P f args w = some (v, w')) :
    Calls P f args w (fun e w1 => e = .returned v ∧ w1 = w') := by
  unfold R at h
  split at h
  · rename_i hx
    have := hx.choose_spec
    simp only [Option.some.injEq] at h
    rw [h] at this
    exact this
  · cases h

theorem R_of_calls {P : Program} {f : FuncId} {args : Array Value} {w w' : World} {v : Value} (hi : P.inits.idxOf? f = none)
    (h : Calls P f args w (fun e w1 => e = .returned v ∧ w1 = w')) : R P f args w = some (v, w') := by
  have hx : ∃ r : Value × World, Calls P f args w (fun e w' => e = .returned r.1 ∧ w' = r.2) := ⟨(v, w'), h⟩
  unfold R
  rw [dif_pos hx]
  have h2 := hx.choose_spec
  generalize hx.choose = r at h2
  have key : ∀ (v1 : Value) (w1 : World), Calls P f args w (fun e w' => e = .returned v1 ∧ w' = w1) →
      ∃ n, runN P n (lone (Frame.enter P f args .normal) [] w) = .ended (.done v1) w1 := by
    intro v1 w1 hc
    obtain ⟨n, v2, w2, hr, rfl, rfl⟩ := Calls.done (R := fun v w' => v = v1 ∧ w' = w1) (hc.mono (by rintro e w' ⟨rfl, rfl⟩; exact ⟨rfl, rfl⟩)) hi
    exact ⟨n, hr⟩
  obtain ⟨n, hn⟩ := key _ _ h
  obtain ⟨m, hm⟩ := key _ _ h2
  have ended : ∀ (a b : Nat) (mm : Machine) (o : Outcome) (w : World), runN P a mm = .ended o w → runN P (a + b) mm = .ended o w := by
    intro a b mm o w ha
    rw [runN_add, ha]
  have h3 := ended n m _ _ _ hn
  have h4 := ended m n _ _ _ hm
  rw [Nat.add_comm] at h4
  rw [h3] at h4
  injection h4 with e1 e2
  injection e1 with e1
  rw [e1, e2]

/-! ## a round of a range over a function -/
open Classical in
noncomputable def RR (P : Program) (l : Nat) (f : FuncId) (tmps : Array Value) (assign body : Code) (w : World) : Option (Value × World) :=
  if h : ∃ r : Value × World, RoundIn Fence.wide 0 P l f tmps assign body w (fun e w' => e = .returned r.1 ∧ w' = r.2) then some h.choose else none

theorem round_of_RR {P : Program} {l : Nat} {f : FuncId} {tmps : Array Value} {assign body : Code} {w w' : World} {v : Value} (h : RR P l f tmps assign body w = some (v, w')) :
    RoundIn Fence.wide 0 P l f tmps assign body w (fun e w1 => e = .returned v ∧ w1 = w') := by
  unfold RR at h
  split at h
  · rename_i hx
    have := hx.choose_spec
    simp only [Option.some.injEq] at h
    rw [h] at this
    exact this
  · cases h

/-- a frame that tells what comes back -/
def askOps : Array Oper := #[{ dst := some 0, op := .move (.const (.bool true)), type := 0, pos := "", after := #[], guard := none }]
def askK : List Item := [.code (.cond (.tmp 0) (.refuse "a") (.refuse "b"))]
def askA : Act := { tmps := #[undef], defers := [] }
def askF : Frame := (default : Frame).atR askA (.inRegion askOps [0] :: askK)

theorem ask_fin (v : Value) : askF.finish v = (default : Frame).atR (askA.put (some 0) v) (.inRegion askOps [] :: askK) := by
  unfold askF
  rw [Frame.finish_atR]
  rfl
theorem ask_true (P : Program) (w : World) : ∃ n p, runN P n (lone (askF.finish (.bool true)) [] w) = .ended (.unsupported (.elab "a") p) w := by
  have h1 := stepR_region_end (P := P) (b := default) (a := askA.put (some 0) (.bool true)) (ops := askOps) (k := askK) (cs := []) (w := w)
  have h2 : step P (lone ((default : Frame).atR (askA.put (some 0) (.bool true)) askK) [] w) = _ := stepR_cond (P := P) (b := default) (a := askA.put (some 0) (.bool true)) (k := []) (cs := []) (w := w) (c := .tmp 0) (x := .refuse "a") (y := .refuse "b") (t := true) rfl
  have h3 : step P (lone ((default : Frame).atR (askA.put (some 0) (.bool true)) [.code (.refuse "a")]) [] w) = .ended (.unsupported (.elab "a") (((default : Frame).atR (askA.put (some 0) (.bool true)) [.code (.refuse "a")]).pos P)) w :=
    step_lone_ended (by simp [stepG, stepG.exec, Frame.atR])
  refine ⟨3, (((default : Frame).atR (askA.put (some 0) (.bool true)) [.code (.refuse "a")]).pos P), ?_⟩
  rw [ask_fin]
  simp only [runN, h1, h2, if_true, h3]
theorem ask_else (P : Program) (w : World) {v : Value} (hv : v ≠ .bool true) : ∃ n o, runN P n (lone (askF.finish v) [] w) = .ended o w ∧ ∀ p, o ≠ .unsupported (.elab "a") p := by
  have h1 := stepR_region_end (P := P) (b := default) (a := askA.put (some 0) v) (ops := askOps) (k := askK) (cs := []) (w := w)
  by_cases hb : v = .bool false
  · subst hb
    have h2 : step P (lone ((default : Frame).atR (askA.put (some 0) (.bool false)) askK) [] w) = _ := stepR_cond (P := P) (b := default) (a := askA.put (some 0) (.bool false)) (k := []) (cs := []) (w := w) (c := .tmp 0) (x := .refuse "a") (y := .refuse "b") (t := false) rfl
    have h3 : step P (lone ((default : Frame).atR (askA.put (some 0) (.bool false)) [.code (.refuse "b")]) [] w) = .ended (.unsupported (.elab "b") (((default : Frame).atR (askA.put (some 0) (.bool false)) [.code (.refuse "b")]).pos P)) w :=
      step_lone_ended (by simp [stepG, stepG.exec, Frame.atR])
    refine ⟨3, .unsupported (.elab "b") (((default : Frame).atR (askA.put (some 0) (.bool false)) [.code (.refuse "b")]).pos P), ?_, ?_⟩
    · rw [ask_fin]
      have h2' : (if (false : Bool) = true then Code.refuse "a" else Code.refuse "b") = Code.refuse "b" := rfl
      simp only [runN, h1, h2, h2', h3]
    · intro p h; simp at h
  · have h2 : step P (lone ((default : Frame).atR (askA.put (some 0) v) askK) [] w) = .ended (.stuck "cond: bool expected" (((default : Frame).atR (askA.put (some 0) v) askK).pos P)) w := by
      refine step_lone_ended ?_
      have he : ((default : Frame).atR (askA.put (some 0) v) askK).eval (.tmp 0) = v := rfl
      simp only [stepG, Frame.atR, askK, stepG.exec]
      simp only [Frame.atR, askK] at he
      rw [he]
      cases v <;> first | rfl | (rename_i b; cases b <;> simp_all)
    refine ⟨2, .stuck "cond: bool expected" (((default : Frame).atR (askA.put (some 0) v) askK).pos P), ?_, ?_⟩
    · rw [ask_fin]
      simp only [runN, h1, h2]
    · intro p h; cases h

theorem RR_of_round {P : Program} {l : Nat} {f : FuncId} {tmps : Array Value} {assign body : Code} {w w' : World}
    (h : RoundIn Fence.wide 0 P l f tmps assign body w (fun e w1 => e = .returned (.bool true) ∧ w1 = w')) : RR P l f tmps assign body w = some (.bool true, w') := by
  have hx : ∃ r : Value × World, RoundIn Fence.wide 0 P l f tmps assign body w (fun e w' => e = .returned r.1 ∧ w' = r.2) := ⟨(.bool true, w'), h⟩
  unfold RR
  rw [dif_pos hx]
  have h2 := hx.choose_spec
  generalize hx.choose = r at h2
  obtain ⟨e1, u1, ⟨rfl, rfl⟩, s1⟩ := h.2 askF [] (room_wide _)
  obtain ⟨e2, u2, ⟨rfl, rfl⟩, s2⟩ := h2.2 askF [] (room_wide _)
  have s1' : Steps P (lone (Frame.round l f tmps assign body .normal) [askF] w) (lone (askF.finish (.bool true)) [] u1) := StepsIn.steps s1
  have s2' : Steps P (lone (Frame.round l f tmps assign body .normal) [askF] w) (lone (askF.finish r.1) [] r.2) := StepsIn.steps s2
  obtain ⟨a1, p1⟩ := s1'
  obtain ⟨a2, p2⟩ := s2'
  obtain ⟨n1, q, r1⟩ := ask_true P u1
  have t1 : runN P (a1 + n1) (lone (Frame.round l f tmps assign body .normal) [askF] w) = .ended (.unsupported (.elab "a") q) u1 := by rw [runN_add, p1]; exact r1
  have ended : ∀ (a b : Nat) (mm : Machine) (o : Outcome) (w : World), runN P a mm = .ended o w → runN P (a + b) mm = .ended o w := by
    intro a b mm o w ha
    rw [runN_add, ha]
  have uniq : ∀ {a b : Nat} {o o' : Outcome} {w1 w2 : World} {mm : Machine}, runN P a mm = .ended o w1 → runN P b mm = .ended o' w2 → o = o' ∧ w1 = w2 := by
    intro a b o o' w1 w2 mm ha hb
    have h3 := ended a b _ _ _ ha
    have h4 := ended b a _ _ _ hb
    rw [Nat.add_comm] at h4
    rw [h3] at h4
    injection h4 with e1 e2
    exact ⟨e1, e2⟩
  by_cases hv : r.1 = .bool true
  · rw [hv] at p2
    obtain ⟨n2, q2, r2⟩ := ask_true P r.2
    have t2 : runN P (a2 + n2) (lone (Frame.round l f tmps assign body .normal) [askF] w) = .ended (.unsupported (.elab "a") q2) r.2 := by rw [runN_add, p2]; exact r2
    have := (uniq t1 t2).2
    rw [this, ← hv]
  · obtain ⟨n2, o, r2, ho⟩ := ask_else P r.2 hv
    have t2 : runN P (a2 + n2) (lone (Frame.round l f tmps assign body .normal) [askF] w) = .ended o r.2 := by rw [runN_add, p2]; exact r2
    exact absurd (uniq t1 t2).1.symm (ho q)

noncomputable def nextR (P : Program) : Result Next → Option (Value × World)
  | .ok (.value v) w => some (v, w)
  | .ok .skip w => some (undef, w)
  | .ok (.enter f args) w => R P f args w
  | .ok (.round l f tmps assign body) w => RR P l f tmps assign body w
  | _ => none

noncomputable def runOp (P : Program) (ρ : Operand → Value) (o : Oper) (w : World) : Option (Value × World) :=
  nextR P ((execOp ρ o).run P w)

theorem runOp_wp {P : Program} {o : Oper} {a : Act} {w w' : World} {v : Value} {next : Act → World → Prop} {Q : Exit → Act → World → Prop}
    (h : runOp P a.eval o w = some (v, w')) (hn : next (a.put o.dst v) w') : o.wpIn Fence.wide 0 P a w next Q := by
  unfold runOp at h
  refine ⟨fun _ _ => trivial, ?_⟩
  change o.uponIn Fence.wide 0 P a next Q ((execOp a.eval o).run P w)
  generalize (execOp a.eval o).run P w = r at h
  match r, h with
  | .ok (.value v1) w1, h =>
    simp only [nextR, Option.some.injEq, Prod.mk.injEq] at h
    obtain ⟨rfl, rfl⟩ := h
    exact hn
  | .ok .skip w1, h =>
    simp only [nextR, Option.some.injEq, Prod.mk.injEq] at h
    obtain ⟨rfl, rfl⟩ := h
    exact hn
  | .ok (.enter f args) w1, h =>
    simp only [nextR] at h
    refine ⟨fun h => (by cases h), callsIn_wide.2 ((calls_of_R h).mono ?_)⟩
    rintro e w2 ⟨rfl, rfl⟩
    exact hn
  | .ok (.round l f tmps assign body) w1, h =>
    simp only [nextR] at h
    refine ⟨fun h => (by cases h), (round_of_RR h).mono ?_⟩
    rintro e w2 ⟨rfl, rfl⟩
    exact hn

/-! typed readings of a value -/
def asB : Value → Option Bool
  | .bool b => some b
  | _ => none
def asI (k : IntKind) : Value → Option Int
  | .int k' n => if k' = k then some n else none
  | _ => none
def asS : Value → Option ByteArray
  | .string s => some s
  | _ => none
def asP : Value → Option (Option Addr)
  | .pointer p => some p
  | _ => none
def asSl : Value → Option (Option Addr × Nat × Nat)
  | .slice a n c => some (a, n, c)
  | _ => none
def asM : Value → Option (Option Nat)
  | .map m => some m
  | _ => none
def asTup (n : Nat) : Value → Option (List Value)
  | .tuple vs => if vs.toList.length = n then some vs.toList else none
  | _ => none
def asAgg (n : Nat) : Value → Option (List Value)
  | .agg vs => if vs.toList.length = n then some vs.toList else none
  | _ => none

def leaves (P : Program) : Nat → TypeId → List TypeId
  | 0, t => [t]
  | d + 1, t => match P.underlying t with
    | some (.struct fs) => fs.toList.flatMap fun f => leaves P d f.type
    | some (.array n e) => (List.replicate n (leaves P d e)).flatten
    | _ => [t]

section
variable {β : Type}

def castLeaf (P : Program) (t : TypeId) (v : Value) (K : Value → Option β) : Option β :=
  match P.underlying t with
  | some .bool => (asB v).bind fun b => K (.bool b)
  | some (.int k) => (asI k v).bind fun n => K (.int k n)
  | some .string => (asS v).bind fun s => K (.string s)
  | some (.pointer _) => (asP v).bind fun p => K (.pointer p)
  | some .unsafePointer => (asP v).bind fun p => K (.pointer p)
  | some (.slice _) => (asSl v).bind fun s => K (.slice s.1 s.2.1 s.2.2)
  | some (.map _ _) => (asM v).bind fun m => K (.map m)
  | _ => K v

theorem castLeaf_ok {P : Program} {t : TypeId} {v : Value} {K : Value → Option β} {r : β} (h : castLeaf P t v K = some r) : K v = some r := by
  unfold castLeaf at h
  split at h
  · cases v <;> first | exact h | cases h
  · cases v <;> first
      | (simp only [asI] at h; split at h <;> first | (subst_vars; exact h) | cases h)
      | cases h
  · cases v <;> first | exact h | cases h
  · cases v <;> first | exact h | cases h
  · cases v <;> first | exact h | cases h
  · cases v <;> first | exact h | cases h
  · cases v <;> first | exact h | cases h
  · exact h

def castList (P : Program) (l : List Value) : Nat → List TypeId → (List Value → Option β) → Option β
  | _, [], K => K []
  | i, t :: ts, K => castLeaf P t (l.getD i undef) fun v => castList P l (i + 1) ts fun vs => K (v :: vs)

theorem castList_ok {P : Program} {l : List Value} {r : β} : ∀ {ts : List TypeId} {i : Nat} {K : List Value → Option β},
    l.length = i + ts.length → castList P l i ts K = some r → K (l.drop i) = some r
  | [], i, K, hl, h => by
    have : l.drop i = [] := List.drop_eq_nil_of_le (by simp at hl; omega)
    rw [this]; exact h
  | t :: ts, i, K, hl, h => by
    simp only [List.length_cons] at hl
    have h1 := castLeaf_ok h
    have h2 := castList_ok (by omega) h1
    have hi : i < l.length := by omega
    rw [List.drop_eq_getElem_cons hi]
    have : l.getD i undef = l[i] := by simp [List.getD, hi]
    rw [← this]; exact h2

/-- a value of a type that is no tuple -/
def castV (P : Program) (t : TypeId) (v : Value) (K : Value → Option β) : Option β :=
  match P.underlying t with
  | some (.struct _) => (asAgg (leaves P 8 t).length v).bind fun l => castList P l 0 (leaves P 8 t) fun vs => K (.agg vs.toArray)
  | _ => castLeaf P t v K

theorem castV_ok {P : Program} {t : TypeId} {v : Value} {K : Value → Option β} {r : β} (h : castV P t v K = some r) : K v = some r := by
  unfold castV at h
  split at h
  · cases v <;> try (cases h; done)
    rename_i cs
    simp only [asAgg] at h
    split at h
    · rename_i hl
      have := castList_ok (by simpa using hl) h
      simpa using this
    · cases h
  · exact castLeaf_ok h

def castVs (P : Program) (l : List Value) : Nat → List TypeId → (List Value → Option β) → Option β
  | _, [], K => K []
  | i, t :: ts, K => castV P t (l.getD i undef) fun v => castVs P l (i + 1) ts fun vs => K (v :: vs)

theorem castVs_ok {P : Program} {l : List Value} {r : β} : ∀ {ts : List TypeId} {i : Nat} {K : List Value → Option β},
    l.length = i + ts.length → castVs P l i ts K = some r → K (l.drop i) = some r
  | [], i, K, hl, h => by
    have : l.drop i = [] := List.drop_eq_nil_of_le (by simp at hl; omega)
    rw [this]; exact h
  | t :: ts, i, K, hl, h => by
    simp only [List.length_cons] at hl
    have h1 := castV_ok h
    have h2 := castVs_ok (by omega) h1
    have hi : i < l.length := by omega
    rw [List.drop_eq_getElem_cons hi]
    have : l.getD i undef = l[i] := by simp [List.getD, hi]
    rw [← this]; exact h2

/-- what a call hands back, a tuple too -/
def castT (P : Program) (t : TypeId) (v : Value) (K : Value → Option β) : Option β :=
  match P.underlying t with
  | some (.tuple ts) => (asTup ts.toList.length v).bind fun l => castVs P l 0 ts.toList fun vs => K (.tuple vs.toArray)
  | _ => castV P t v K

theorem castT_ok {P : Program} {t : TypeId} {v : Value} {K : Value → Option β} {r : β} (h : castT P t v K = some r) : K v = some r := by
  unfold castT at h
  split at h
  · cases v <;> try (cases h; done)
    rename_i cs
    simp only [asTup] at h
    split at h
    · rename_i hl
      have := castVs_ok (by simpa using hl) h
      simpa using this
    · cases h
  · exact castV_ok h
end
end Go.Ev
