/-
  An evaluator of the code of the model, in Option, and the proof that what it answers is what a call comes to, for whatever program: part Ev8. No condition.
-/
import Derived.Test.YtjcenfgmpbeldaaEv7
namespace Go.Ev
open Go

/-! ## casts hand their results on -/
section
variable {P : Program} {w : World} {β : Type}
theorem bind_lin {α β : Type} {x : Option α} {g : α → Value} {K : Value → Option β} : (x.bind fun a => K (g a)) = (x.bind fun a => some (g a)).bind K := by
  cases x <;> rfl

theorem lin_castLeaf {t : TypeId} {v : Value} {K : Value → Option β} : castLeaf P t v K = (castLeaf P t v some).bind K := by
  unfold castLeaf
  split <;> first | exact bind_lin | rfl

theorem lin_castList {l : List Value} : ∀ {ts : List TypeId} {i : Nat} {β : Type} {K : List Value → Option β}, castList P l i ts K = (castList P l i ts some).bind K
  | [], i, β, K => rfl
  | t :: ts, i, β, K => by
    simp only [castList]
    rw [lin_castLeaf, lin_castLeaf (K := fun v => castList P l (i + 1) ts fun vs => some (v :: vs)), Option.bind_assoc]
    congr 1
    funext v
    rw [lin_castList, lin_castList (K := fun vs => some (v :: vs)), Option.bind_assoc]
    rfl

theorem lin_castV {t : TypeId} {v : Value} {K : Value → Option β} : castV P t v K = (castV P t v some).bind K := by
  unfold castV
  split
  · rw [Option.bind_assoc]
    congr 1
    funext l
    rw [lin_castList, lin_castList (K := fun vs => some (Value.agg vs.toArray)), Option.bind_assoc]
    rfl
  · exact lin_castLeaf

theorem lin_castVs {l : List Value} : ∀ {ts : List TypeId} {i : Nat} {β : Type} {K : List Value → Option β}, castVs P l i ts K = (castVs P l i ts some).bind K
  | [], i, β, K => rfl
  | t :: ts, i, β, K => by
    simp only [castVs]
    rw [lin_castV, lin_castV (K := fun v => castVs P l (i + 1) ts fun vs => some (v :: vs)), Option.bind_assoc]
    congr 1
    funext v
    rw [lin_castVs, lin_castVs (K := fun vs => some (v :: vs)), Option.bind_assoc]
    rfl

theorem lin_castT {t : TypeId} {v : Value} {K : Value → Option β} : castT P t v K = (castT P t v some).bind K := by
  unfold castT
  split
  · rw [Option.bind_assoc]
    congr 1
    funext l
    rw [lin_castVs, lin_castVs (K := fun vs => some (Value.tuple vs.toArray)), Option.bind_assoc]
    rfl
  · exact lin_castV

end

/-! ## quiet operations -/
section
variable {β : Type}

def evBinP (P : Program) (op : BinOp) (t : TypeId) (x y : Value) (K : Value → Option β) : Option β :=
  match x, y with
  | .int k a, .int yk b =>
    match op with
    | .shl => shI .shl k a b K
    | .shr => shI .shr k a b K
    | op => if k = yk then binI op k a b K else none
  | .string a, .string b => binS op a b K
  | .bool a, .bool b =>
    match P.underlying t, op with
    | some .bool, .eql => K (.bool (a == b))
    | some .bool, .neq => K (.bool (!(a == b)))
    | _, _ => none
  | .pointer a, .pointer none =>
    match P.underlying t, op with
    | some (.pointer _), .eql => K (.bool a.isNone)
    | some (.pointer _), .neq => K (.bool (!a.isNone))
    | _, _ => none
  | .slice a _ _, .slice none _ _ =>
    match P.underlying t, op with
    | some (.slice _), .eql => K (.bool a.isNone)
    | some (.slice _), .neq => K (.bool (!a.isNone))
    | _, _ => none
  | _, _ => none

def evPureK (P : Program) (ρ : Operand → Value) (o : Op) (ty : TypeId) (K : Value → Option β) : Option β :=
  match o with
  | .move x => K (ρ x)
  | .assign x => K (ρ x)
  | .pick c a b => match ρ c with
    | .bool t => if t = true then K (ρ a) else K (ρ b)
    | _ => none
  | .nilCheck x => match ρ x with
    | .pointer p => p.bind fun a => K (.pointer (some a))
    | _ => none
  | .binOp op t x y _ => evBinP P op t (ρ x) (ρ y) K
  | .unOp op _ x => unI op (ρ x) K
  | .convert s d x => match ρ x, P.underlying s, P.underlying d with
    | .int _ n, some _, some (.int k) => K (.int k (k.wrap n))
    | _, _, _ => none
  | .fieldAddr s x f => evFieldA P s (ρ x) f K
  | .field s x f => evField P s (ρ x) f K
  | .indexAddr t x i => evIdxA P t (ρ x) (ρ i) K
  | .slice t x lo hi mx => evSlice P t (ρ x) (lo.map ρ) (hi.map ρ) (mx.map ρ) K
  | .makeFunc fn a b => K (.func fn (a.map ρ) (b.map ρ))
  | .extract t i => match ρ t with
    | .tuple vs => (vs[i]?).bind fun v => castT P ty v K
    | _ => none
  | .call c => match c.callee with
    | .builtin b =>
      match b, (c.args.map ρ).toList, (c.argTypes[0]?).bind P.underlying with
      | .len, [.slice _ n _], some (.slice _) => K (.int .i64 n)
      | .len, [.string s], some .string => K (.int .i64 s.size)
      | .cap, [.slice _ _ n], some (.slice _) => K (.int .i64 n)
      | .min, [.int k x, .int _ y], _ => K (.int k (if y < x then y else x))
      | .max, [.int k x, .int _ y], _ => K (.int k (if y > x then y else x))
      | _, _, _ => none
    | _ => none
  | _ => none

def evReadK (P : Program) (ρ : Operand → Value) (o : Op) (w : World) (K : Value → Option β) : Option β :=
  match o with
  | .load t a => match ρ a with
    | .pointer (some ad) => loadT P t w ad K
    | _ => none
  | .lookup t x i ok => evLookup P t (ρ x) (ρ i) ok w K
  | .call c => match c.callee with
    | .builtin b =>
      match b, (c.args.map ρ).toList, (c.argTypes[0]?).bind P.underlying with
      | .len, [.map m], some (.map _ _) => (mLen w m).bind fun n => K (.int .i64 n)
      | _, _, _ => none
    | _ => none
  | _ => none
end

def isMapT : Option TypeDesc → Bool
  | some (.map _ _) => true
  | _ => false
def isIntT : Option TypeDesc → Bool
  | some (.int _) => true
  | _ => false

/-- 2: needs no memory; 1: reads memory; 0: anything -/
def clsOp (P : Program) : Op → Nat
  | .move _ | .assign _ | .pick .. | .nilCheck _ | .unOp .. | .fieldAddr .. | .field .. | .indexAddr .. | .slice .. | .makeFunc .. | .extract .. => 2
  | .binOp _ t _ _ _ => match P.underlying t with
    | some (.int _) | some .string | some .bool | some (.slice _) | some (.pointer _) => 2
    | _ => 0
  | .convert s d _ => if (isIntT (P.underlying s) && isIntT (P.underlying d)) = true then 2 else 0
  | .load .. | .lookup .. => 1
  | .call c => match c.callee with
    | .builtin .len => if isMapT ((c.argTypes[0]?).bind P.underlying) = true then 1 else 2
    | .builtin .cap | .builtin .min | .builtin .max => 2
    | _ => 0
  | _ => 0

theorem lin_binI {op : BinOp} {k : IntKind} {a b : Int} {β : Type} {K : Value → Option β} : binI op k a b K = (binI op k a b some).bind K := by
  cases op <;> simp only [binI] <;> first | rfl | (split <;> rfl)
theorem lin_shI {op : BinOp} {k : IntKind} {a b : Int} {β : Type} {K : Value → Option β} : shI op k a b K = (shI op k a b some).bind K := by
  unfold shI; split
  · rfl
  · cases op <;> rfl
theorem lin_binS {op : BinOp} {a b : ByteArray} {β : Type} {K : Value → Option β} : binS op a b K = (binS op a b some).bind K := by
  cases op <;> simp only [binS] <;> first | rfl | (split <;> rfl)
theorem lin_evBinP {P : Program} {op : BinOp} {t : TypeId} {x y : Value} {β : Type} {K : Value → Option β} : evBinP P op t x y K = (evBinP P op t x y some).bind K := by
  unfold evBinP
  split
  · split
    · exact lin_shI
    · exact lin_shI
    · split
      · exact lin_binI
      · rfl
  · exact lin_binS
  · split <;> rfl
  · split <;> rfl
  · split <;> rfl
  · rfl
theorem lin_unI {op : UnOp} {x : Value} {β : Type} {K : Value → Option β} : unI op x K = (unI op x some).bind K := by
  unfold unI
  split
  · rfl
  · exact lin_binI
  · rfl
  · rfl
theorem lin_evFieldA {P : Program} {s : TypeId} {x : Value} {f : Nat} {β : Type} {K : Value → Option β} : evFieldA P s x f K = (evFieldA P s x f some).bind K := by
  unfold evFieldA
  split
  · split
    · split
      · rfl
      · split <;> rfl
    · rfl
  · rfl

theorem lin_evField {P : Program} {s : TypeId} {x : Value} {f : Nat} {β : Type} {K : Value → Option β} : evField P s x f K = (evField P s x f some).bind K := by
  unfold evField
  split
  · split
    · split
      · rfl
      · rfl
      · rename_i fd _ _ _ _ _ _ _
        exact bind_lin (g := id)
      · rfl
    · rfl
  · rfl
theorem lin_evIdxA {P : Program} {t : TypeId} {x i : Value} {β : Type} {K : Value → Option β} : evIdxA P t x i K = (evIdxA P t x i some).bind K := by
  unfold evIdxA
  split
  · split
    · exact bind_lin
    · rfl
  · split
    · exact bind_lin
    · rfl
  · rfl
theorem lin_evSlice {P : Program} {t : TypeId} {x : Value} {lo hi mx : Option Value} {β : Type} {K : Value → Option β} : evSlice P t x lo hi mx K = (evSlice P t x lo hi mx some).bind K := by
  unfold evSlice
  cases optI lo with
  | none => rfl
  | some l =>
    cases optI hi with
    | none => rfl
    | some h =>
      cases optI mx with
      | none => rfl
      | some m =>
        simp only [Option.bind_some]
        split
        · rfl
        · split
          · split
            · rfl
            · exact bind_lin
          · split
            · exact bind_lin
            · rfl
          · split
            · exact bind_lin
            · rfl
          · rfl

theorem lin_pure {P : Program} {ρ : Operand → Value} {o : Op} {ty : TypeId} {β : Type} {K : Value → Option β} : evPureK P ρ o ty K = (evPureK P ρ o ty some).bind K := by
  cases o <;> simp only [evPureK] <;> try rfl
  case pick c a b =>
    split
    · split <;> rfl
    · rfl
  case nilCheck x =>
    split
    · exact bind_lin
    · rfl
  case binOp => exact lin_evBinP
  case unOp => exact lin_unI
  case convert => split <;> rfl
  case fieldAddr => exact lin_evFieldA
  case field => exact lin_evField
  case indexAddr => exact lin_evIdxA
  case slice => exact lin_evSlice
  case extract =>
    split
    · rw [Option.bind_assoc]
      congr 1
      funext v
      exact lin_castT
    · rfl
  case call c =>
    split
    · split <;> rfl
    · rfl

theorem pure_evOp {P : Program} {ρ : Operand → Value} {o : Op} {t : TypeId} {w : World} {v : Value} (h : evPureK P ρ o t some = some v) :
    evOp P ρ o t w (fun v w => some (v, w)) = some (v, w) := by
  have lift : ∀ {f : (β : Type) → (Value → Option β) → Option β}, (∀ (β : Type) (K : Value → Option β), f β K = (f Value some).bind K) → f Value some = some v →
      f (Value × World) (fun v => some (v, w)) = some (v, w) := by
    intro f hf h1
    rw [hf, h1]; rfl
  cases o <;> simp only [evPureK] at h <;> try (cases h; done)
  case move x => simp only [Option.some.injEq] at h; subst h; rfl
  case assign x => simp only [Option.some.injEq] at h; subst h; rfl
  case pick c a b =>
    simp only [evOp]
    split at h
    · rename_i tt hc
      rw [hc]
      simp only
      split at h <;> rename_i ht <;> simp only [Option.some.injEq] at h <;> subst h <;> simp [ht]
    · cases h
  case nilCheck x =>
    simp only [evOp]
    split at h
    · rename_i p hp
      rw [hp]
      cases p with
      | none => cases h
      | some a => simp only [Option.bind_some, Option.some.injEq] at h; subst h; rfl
    · cases h
  case binOp op tt x y yt =>
    simp only [evOp]
    unfold evBinP at h
    unfold evBin
    split at h
    · rename_i k a yk b hx hy
      rw [hx, hy]
      simp only
      split at h
      · exact lift (f := fun β K => shI .shl k a b K) (fun _ _ => lin_shI) h
      · exact lift (f := fun β K => shI .shr k a b K) (fun _ _ => lin_shI) h
      · rename_i n1 n2
        split at h
        · rename_i hk
          cases op <;> first | exact absurd rfl n1 | exact absurd rfl n2 | (simp only [hk, if_true]; exact lift (f := fun β K => binI _ _ a b K) (fun _ _ => lin_binI) (hk ▸ h))
        · cases h
    · rename_i a b hx hy
      rw [hx, hy]
      exact lift (f := fun β K => binS op a b K) (fun _ _ => lin_binS) h
    · rename_i a b hx hy
      rw [hx, hy]
      simp only
      split at h <;> first | (cases h; done) | (rename_i ht; rw [ht]; simp only [Option.some.injEq] at h; subst h; rfl)
    · rename_i a hx hy
      rw [hx, hy]
      simp only
      split at h <;> first | (cases h; done) | (rename_i ht; rw [ht]; simp only [Option.some.injEq] at h; subst h; rfl)
    · rename_i a n c n' c' hx hy
      rw [hx, hy]
      simp only
      split at h <;> first | (cases h; done) | (rename_i ht; rw [ht]; simp only [Option.some.injEq] at h; subst h; rfl)
    · cases h
  case unOp op tt x =>
    exact lift (f := fun β K => unI op (ρ x) K) (fun _ _ => lin_unI) h
  case convert s d x =>
    simp only [evOp]
    split at h
    · rename_i k0 n d1 k hx h1 h2
      rw [hx]
      unfold evConv
      rw [h1, h2]
      simp only [Option.some.injEq] at h; subst h; rfl
    · cases h
  case fieldAddr s x f => exact lift (f := fun β K => evFieldA P s (ρ x) f K) (fun _ _ => lin_evFieldA) h
  case field s x f => exact lift (f := fun β K => evField P s (ρ x) f K) (fun _ _ => lin_evField) h
  case indexAddr tt x i => exact lift (f := fun β K => evIdxA P tt (ρ x) (ρ i) K) (fun _ _ => lin_evIdxA) h
  case slice tt x lo hi mx => exact lift (f := fun β K => evSlice P tt (ρ x) (lo.map ρ) (hi.map ρ) (mx.map ρ) K) (fun _ _ => lin_evSlice) h
  case makeFunc fn a b => simp only [Option.some.injEq] at h; subst h; rfl
  case extract tt i =>
    simp only [evOp]
    split at h
    · rename_i vs hv
      rw [hv]
      simp only
      cases hvi : vs[i]? with
      | none => rw [hvi] at h; cases h
      | some u =>
        rw [hvi] at h
        simp only [Option.bind_some] at h ⊢
        rw [lin_castT, h]; rfl
    · cases h
  case call c =>
    simp only [evOp, evCall]
    split at h
    · rename_i b hb
      rw [hb]
      simp only
      split at h <;> first
        | (cases h; done)
        | (rename_i h1 h2; rw [h1, h2]; simp only [Option.some.injEq] at h; subst h; rfl)
        | (rename_i h1; rw [h1]; simp only [Option.some.injEq] at h; subst h; rfl)
    · cases h

theorem pure_ok {P : Program} {ρ : Operand → Value} {o : Oper} {β : Type} {K : Value → Option β} {r : β} (h : evPureK P ρ o.op o.type K = some r) :
    ∃ v, (∀ w, runOp P ρ o w = some (v, w)) ∧ K v = some r := by
  rw [lin_pure] at h
  obtain ⟨v, h1, h2⟩ := bind_some_iff' h
  refine ⟨v, fun w => ?_, h2⟩
  obtain ⟨v', w', h3, h4⟩ := evOp_ok (pure_evOp (t := o.type) (w := w) h1)
  simp only [Option.some.injEq, Prod.mk.injEq] at h4
  rw [h3, h4.1, h4.2]

theorem read_ok {P : Program} {ρ : Operand → Value} {o : Oper} {w : World} {β : Type} {K : Value → Option β} {r : β} (h : evReadK P ρ o.op w K = some r) :
    ∃ v, runOp P ρ o w = some (v, w) ∧ K v = some r := by
  cases ho : o.op <;> rw [ho] at h <;> simp only [evReadK] at h <;> try (cases h; done)
  case load t a =>
    split at h
    · rename_i ad ha
      obtain ⟨v, h1, h2⟩ := loadT_ok h
      refine ⟨v, ?_, h2⟩
      unfold runOp execOp
      rw [ho]
      simp only [ha]
      exact nextR_v h1
    · cases h
  case lookup t x i ok =>
    obtain ⟨v, h1, h2⟩ := evLookup_ok h
    refine ⟨v, ?_, h2⟩
    unfold runOp execOp
    rw [ho]
    exact nextR_v h1
  case call c =>
    cases c with
    | mk callee args argTypes =>
    simp only at h
    split at h
    · rename_i b
      split at h
      · rename_i m kt e hargs ht
        have h0 : (args.map ρ)[0]? = some (.map m) := by
          have := congrArg (fun l => l[0]?) hargs
          simpa using this
        obtain ⟨t, h1, h2⟩ := bind_some_iff' ht
        obtain ⟨n, h3, h4⟩ := bind_some_iff' h
        refine ⟨_, ?_, h4⟩
        unfold runOp execOp
        rw [ho]
        simp only [resolve, Sem.run_bind, Sem.run_pure, Result.andThen_ok, invoke]
        simp [builtin, mLen_ok h1 h2 h3 h0, nextR]
      · cases h
    · cases h
end Go.Ev
