/-
  An evaluator of the code of the model, in Option, and the proof that what it answers is what a call comes to, for whatever program: part Ev2. No condition.
-/
import Derived.Test.YtjcenfgmpbeldaaEv1
import GoSem.Dispatch
import Derived.Laws.Sem
import Derived.Laws.Cells
namespace Go.Ev
open Go

/-! ## memory -/
def ldN (w : World) (a : Addr) : Nat → Nat → Option (List Value)
  | _, 0 => some []
  | i, n + 1 => (w.cell? (a.add i)).bind fun v => (ldN w a (i + 1) n).bind fun l => some (v :: l)

def st1 (w : World) (a : Addr) (v : Value) : Option World :=
  if v.oneCell' = true then
    match w.cell? a with
    | some _ => if w.frozen? a = true then none else some (w.setCell a v)
    | none => none
  else none

def stL (w : World) (a : Addr) : List Value → Nat → Option World
  | [], _ => some w
  | v :: vs, i => (st1 w (a.add i) v).bind fun w => stL w a vs (i + 1)

def _root_.Go.World.setBlk (w : World) (r : Nat) (o : Obj) : World := { w with heap := w.heap.setIfInBounds r o }

def mEnt (w : World) : Option Nat → Option (List MapEntry)
  | none => some []
  | some r => match w.heap[r]? with
    | some (.map es _) => some es.toList
    | _ => none

def plainKey : TypeDesc → Bool
  | .int _ | .string | .bool => true
  | _ => false

def mLook (d : TypeDesc) (w : World) (m : Option Nat) (k : Value) : Option (Option Value) :=
  (mEnt w m).bind fun es => (Instr.findNow d k es 0).bind fun o => some (o.map (·.2))

def mUpd (d : TypeDesc) (w : World) (m : Option Nat) (k v : Value) : Option World :=
  match m with
  | none => none
  | some r => match w.heap[r]? with
    | some (.map es clock) => match Instr.findNow d k es.toList 0 with
      | some (some (i, _)) => some (w.setBlk r (.map (es.modify i fun e => { e with key := k, val := v }) clock))
      | some none => some (w.setBlk r (.map (es.push { key := k, val := v, born := clock }) (clock + 1)))
      | none => none
    | _ => none

def mDel (d : TypeDesc) (w : World) (m : Option Nat) (k : Value) : Option World :=
  match m with
  | none => some w
  | some r => match w.heap[r]? with
    | some (.map es clock) => match Instr.findNow d k es.toList 0 with
      | some (some (i, _)) => some (w.setBlk r (.map (es.eraseIdxIfInBounds i) clock))
      | some none => some (w.setBlk r (.map es clock))
      | none => none
    | _ => none

def mLen (w : World) (m : Option Nat) : Option Nat := (mEnt w m).map (·.length)

/-! ## addresses -/
def idxA (base : Option Addr) (len size : Nat) (i : Int) : Option Addr :=
  if 0 ≤ i ∧ i < len then base.bind fun a => some (a.add (i.toNat * size)) else none

def bnd (x : Option Int) (dflt y : Nat) : Option Nat :=
  match x with
  | none => some dflt
  | some i => if 0 ≤ i ∧ i ≤ y then some i.toNat else none

/-- a slice of a slice, or of an array -/
def slc (base : Option Addr) (len cap size : Nat) (lo hi mx : Option Int) : Option (Option Addr × Nat × Nat) :=
  (bnd mx cap cap).bind fun m => (bnd hi len m).bind fun h => (bnd lo 0 h).bind fun l =>
    some (if m = l then base else base.map (·.add (l * size)), h - l, m - l)

def strSlc (s : ByteArray) (lo hi : Option Int) : Option ByteArray :=
  (bnd hi s.size s.size).bind fun h => (bnd lo 0 h).bind fun l => some (s.extract l h)

def strIdx (s : ByteArray) (i : Int) : Option Int :=
  if 0 ≤ i then (s[i.toNat]?).bind fun b => some (b.toNat : Int) else none

def optI : Option Value → Option (Option Int)
  | none => some none
  | some (.int _ n) => some (some n)
  | _ => none

def zc (P : Program) (t : TypeId) : Option Value := (P.info? t).bind (·.zero)

/-! ## calls -/
noncomputable def callF (P : Program) (f : FuncId) (args : Array Value) (w : World) : Option (Value × World) :=
  nextR P ((callFunc f args).run P w)
/-- a call of a function value -/
noncomputable def callV (P : Program) (f : Value) (args : Array Value) (w : World) : Option (Value × World) :=
  nextR P ((do let d ← Deferred.ofValue f args; invoke d.target d.args).run P w)
noncomputable def callB (P : Program) (b : Builtin) (argTypes : Array TypeId) (t : TypeId) (consts : Array Bool) (args : Array Value) (w : World) : Option (Value × World) :=
  nextR P ((builtin b argTypes t consts args).run P w)

def semR (P : Program) (s : Sem Value) (w : World) : Option (Value × World) :=
  match s.run P w with
  | .ok v w => some (v, w)
  | _ => none

theorem semR_ok {P : Program} {s : Sem Value} {w w' : World} {v : Value} (h : semR P s w = some (v, w')) : s.run P w = .ok v w' := by
  unfold semR at h
  split at h
  · rename_i h1; simp only [Option.some.injEq, Prod.mk.injEq] at h; obtain ⟨rfl, rfl⟩ := h; exact h1
  · cases h

theorem nextR_v {P : Program} {s : Sem Value} {w w' : World} {v : Value} (h : s.run P w = .ok v w') :
    nextR P (Sem.run P (do let x ← s; pure (Next.value x)) w) = some (v, w') := by
  simp [h, nextR]

theorem nextR_u {P : Program} {s : Sem Unit} {w w' : World} (h : s.run P w = .ok () w') :
    nextR P (Sem.run P (do s; pure Next.skip) w) = some (undef, w') := by
  simp [h, nextR]

theorem run_underlying {P : Program} {t : TypeId} {d : TypeDesc} (h : P.underlying t = some d) (w : World) : (underlying t).run P w = .ok d w := by
  simp [underlying, h]

theorem run_isAgg {P : Program} {t : TypeId} {d : TypeDesc} (h : P.underlying t = some d) (w : World) :
    (isAgg t).run P w = .ok (match d with | .struct _ | .array _ _ => true | _ => false) w := by
  unfold isAgg
  simp only [Sem.run_bind, run_underlying h, Result.andThen_ok]
  cases d <;> rfl

theorem run_typeInfo {P : Program} {t : TypeId} {i : TypeInfo} (h : P.info? t = some i) (w : World) : (typeInfo t).run P w = .ok i w := by
  simp [typeInfo, h]

theorem info_of_underlying {P : Program} {t : TypeId} {d : TypeDesc} (h : P.underlying t = some d) : ∃ i, P.info? t = some i := by
  unfold Program.underlying at h
  cases hh : P.info? t with
  | none => rw [hh] at h; cases h
  | some i => exact ⟨i, rfl⟩

theorem run_sizeOf {P : Program} {t : TypeId} {i : TypeInfo} (h : P.info? t = some i) (w : World) : (sizeOf t).run P w = .ok i.size w := by
  simp [sizeOf, run_typeInfo h]

theorem run_zeroValue {P : Program} {t : TypeId} {v : Value} (h : zc P t = some v) (w : World) : (zeroValue t).run P w = .ok v w := by
  unfold zc at h
  cases hi : P.info? t with
  | none => rw [hi] at h; cases h
  | some i =>
    rw [hi] at h
    simp only [Option.bind_some] at h
    simp [zeroValue, run_typeInfo hi, h]

theorem run_ld {P : Program} {w : World} {a : Addr} {v : Value} (h : w.cell? a = some v) : (load a).run P w = .ok v w := by
  simp [h]

theorem ldN_spec {w : World} {a : Addr} : ∀ {n i : Nat} {l : List Value}, ldN w a i n = some l →
    l.length = n ∧ ∀ j v, l[j]? = some v → w.cell? (a.add (i + j)) = some v
  | 0, i, l, h => by
    simp only [ldN, Option.some.injEq] at h
    subst h; simp
  | n + 1, i, l, h => by
    simp only [ldN] at h
    cases hc : w.cell? (a.add i) with
    | none => rw [hc] at h; cases h
    | some v =>
      rw [hc] at h
      simp only [Option.bind_some] at h
      cases hr : ldN w a (i + 1) n with
      | none => rw [hr] at h; cases h
      | some l1 =>
        rw [hr] at h
        simp only [Option.bind_some, Option.some.injEq] at h
        subst h
        obtain ⟨h1, h2⟩ := ldN_spec hr
        refine ⟨by simp [h1], ?_⟩
        intro j v' hj
        match j with
        | 0 => simp at hj; subst hj; exact hc
        | j + 1 =>
          simp at hj
          have := h2 j v' hj
          rwa [show i + (j + 1) = i + 1 + j by omega]

theorem run_ldN {P : Program} {w : World} {a : Addr} {n : Nat} {l : List Value} (h : ldN w a 0 n = some l) :
    (loadCells a n).run P w = .ok l.toArray w := by
  obtain ⟨h1, h2⟩ := ldN_spec h
  subst h1
  exact run_loadCells_list w a l (fun j v hj => by simpa using h2 j v hj)

theorem run_st1 {P : Program} {w w' : World} {a : Addr} {v : Value} (h : st1 w a v = some w') : (store a v).run P w = .ok () w' := by
  unfold st1 at h
  split at h
  · rename_i ho
    split at h
    · rename_i u hc
      split at h
      · cases h
      · rename_i hf
        simp only [Option.some.injEq] at h
        subst h
        cases v <;> first | (simp [Value.oneCell'] at ho; done) | simp [store, Sem.run, hc, hf]
    · cases h
  · cases h

theorem run_stL {P : Program} {a : Addr} : ∀ {vs : List Value} {i : Nat} {w w' : World}, stL w a vs i = some w' → (storeCells a vs i).run P w = .ok () w'
  | [], i, w, w', h => by simp only [stL, Option.some.injEq] at h; subst h; rfl
  | v :: vs, i, w, w', h => by
    simp only [stL] at h
    cases hs : st1 w (a.add i) v with
    | none => rw [hs] at h; cases h
    | some w1 =>
      rw [hs] at h
      have h1 := run_stL (P := P) h
      simp only [storeCells, Sem.run_bind, run_st1 (P := P) hs, Result.andThen_ok, h1]

theorem run_newVar (P : Program) (t : TypeId) (v : Value) (w : World) : (newVar t v).run P w = .ok ⟨w.heap.size, 0, none⟩ (w.alloc (.cells v.cells t)) := by
  simp [newVar, newRow]

theorem sliceBound_ok {P : Program} {w : World} {k : IntKind} {n : Int} {y : Nat} {c : BoundsCode} (h : 0 ≤ n ∧ n ≤ y) :
    (Instr.sliceBound (.int k n) y c).run P w = .ok n.toNat w := by
  unfold Instr.sliceBound
  simp only [asIntOf, Sem.run_bind, Sem.run_pure, Result.andThen_ok]
  rw [if_pos h]; rfl

end Go.Ev
