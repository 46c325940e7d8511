/-
  An evaluator of the code of the model, in Option, and the proof that what it answers is what a call comes to, for whatever program: part Ev13. No condition.
-/
import Derived.Test.YtjcenfgmpbeldaaEv12
namespace Go.Ev
open Go

/-! ## every evaluator hands its results to its continuation, and nothing else -/
section
variable {P : Program} {w : World} {β : Type}

abbrev ret2 : Value → World → Option (Value × World) := fun v w => some (v, w)
def to2 (K : Value → World → Option β) : Value × World → Option β := fun q => K q.1 q.2

/-- a value evaluator that is handed the world it began in -/
theorem lin_w {f : (γ : Type) → (Value → Option γ) → Option γ} (hf : ∀ (γ : Type) (K : Value → Option γ), f γ K = (f Value some).bind K) {K : Value → World → Option β} :
    f β (fun v => K v w) = (f (Value × World) (fun v => some (v, w))).bind (to2 K) := by
  rw [hf, hf (K := fun v => some (v, w)), Option.bind_assoc]
  rfl

theorem lin_q {x : Option (Value × World)} {f : (γ : Type) → Value → (Value → Option γ) → Option γ} (hf : ∀ (γ : Type) (v : Value) (K : Value → Option γ), f γ v K = (f Value v some).bind K)
    {K : Value → World → Option β} : (x.bind fun r => f β r.1 fun v => K v r.2) = (x.bind fun r => f (Value × World) r.1 fun v => some (v, r.2)).bind (to2 K) := by
  rw [Option.bind_assoc]
  congr 1
  funext q
  exact lin_w (w := q.2) (f := fun γ K => f γ q.1 K) fun γ K => hf γ q.1 K

theorem lin_loadT {t : TypeId} {a : Addr} {K : Value → Option β} : loadT P t w a K = (loadT P t w a some).bind K := by
  unfold loadT
  split
  · rw [Option.bind_assoc]
    congr 1
    funext l
    split
    · rw [lin_castList, lin_castList (K := fun vs => some (Value.agg vs.toArray)), Option.bind_assoc]
      rfl
    · rfl
  · exact bind_lin
  · rw [Option.bind_assoc]
    congr 1
    funext v
    exact lin_castLeaf
  · rfl

theorem lin_storeT {t : TypeId} {a : Addr} {x : Value} {K : World → Option β} : storeT P t w a x K = (storeT P t w a x some).bind K := by
  unfold storeT
  split
  · rfl
  · split
    · split
      · rw [Option.bind_assoc]; rfl
      · rfl
    · split
      · rw [Option.bind_assoc]; rfl
      · rfl

theorem lin_evBin {op : BinOp} {t : TypeId} {xo yo : Operand} {x y : Value} {K : Value → World → Option β} :
    evBin P op t xo yo x y w K = (evBin P op t xo yo x y w ret2).bind (to2 K) := by
  unfold evBin
  split
  · split
    · exact lin_w (f := fun γ K => shI _ _ _ _ K) fun _ _ => lin_shI
    · exact lin_w (f := fun γ K => shI _ _ _ _ K) fun _ _ => lin_shI
    · split
      · exact lin_w (f := fun γ K => binI _ _ _ _ K) fun _ _ => lin_binI
      · rfl
  · exact lin_w (f := fun γ K => binS _ _ _ K) fun _ _ => lin_binS
  · split <;> rfl
  · split <;> rfl
  · split <;> rfl
  · rw [Option.bind_assoc]
    congr 1
    funext q
    cases asB q.1 <;> rfl

theorem lin_evConv {s d : TypeId} {x : Value} {K : Value → World → Option β} : evConv P s d x w K = (evConv P s d x w ret2).bind (to2 K) := by
  unfold evConv
  split
  · rfl
  · exact lin_q (f := fun γ v K => castV P d v K) fun _ _ _ => lin_castV

theorem lin_evNil {x : Value} {K : Value → World → Option β} : evNil x w K = (evNil x w ret2).bind (to2 K) := by
  unfold evNil
  split
  · rw [Option.bind_assoc]; rfl
  · rfl
  · rfl

theorem lin_evIndex {t : TypeId} {x i : Value} {K : Value → World → Option β} : evIndex P t x i w K = (evIndex P t x i w ret2).bind (to2 K) := by
  unfold evIndex
  split
  · rw [Option.bind_assoc]; rfl
  · exact lin_q (f := fun γ v K => castV P _ v K) fun _ _ _ => lin_castV
  · rfl

theorem lin_evLookup {t : TypeId} {x k : Value} {ok : Bool} {K : Value → Option β} : evLookup P t x k ok w K = (evLookup P t x k ok w some).bind K := by
  unfold evLookup
  split
  · split
    · split
      · split
        · rw [Option.bind_assoc]
          congr 1
          funext o
          rw [lin_castV]
          conv => rhs; rw [lin_castV]
          rw [Option.bind_assoc]
          rfl
        · rfl
      · rfl
    · rfl
  · rfl

theorem lin_evMapUpd {t : TypeId} {x k v : Value} {K : World → Option β} : evMapUpd P t x k v w K = (evMapUpd P t x k v w some).bind K := by
  unfold evMapUpd
  split
  · split
    · split
      · rw [Option.bind_assoc]; rfl
      · rfl
    · rfl
  · rfl

theorem lin_evBuild {t : TypeId} {parts : Array (Nat × Value)} {K : Value → Option β} : evBuild P t parts K = (evBuild P t parts some).bind K := by
  unfold evBuild
  split
  · split
    · exact bind_lin
    · rfl
  · split
    · exact bind_lin
    · rfl
  · rfl

theorem lin_evBuildS {t : TypeId} {n : Nat} {parts : Array (Nat × Value)} {K : Value → World → Option β} : evBuildS P t n parts w K = (evBuildS P t n parts w ret2).bind (to2 K) := by
  unfold evBuildS
  split
  · split
    · split
      · rfl
      · rw [Option.bind_assoc]; rfl
    · rfl
  · rfl

theorem lin_evMakeS {t : TypeId} {l c : Value} {K : Value → World → Option β} : evMakeS P t l c w K = (evMakeS P t l c w ret2).bind (to2 K) := by
  unfold evMakeS
  split
  · split
    · split <;> rfl
    · rfl
  · rfl

theorem lin_evCall {ρ : Operand → Value} {c : Call} {t : TypeId} {K : Value → World → Option β} : evCall P ρ c t w K = (evCall P ρ c t w ret2).bind (to2 K) := by
  unfold evCall
  split
  · split
    · exact lin_q (f := fun γ v K => castT P t v K) fun _ _ _ => lin_castT
    · exact lin_q (f := fun γ v K => castT P t v K) fun _ _ _ => lin_castT
  · split
    · rfl
    · rfl
    · rw [Option.bind_assoc]; rfl
    · rfl
    · rfl
    · rfl
    · rfl
    · exact lin_q (f := fun γ v K => castT P t v K) fun _ _ _ => lin_castT
  · exact lin_q (f := fun γ v K => castT P t v K) fun _ _ _ => lin_castT

theorem lin_evOp {ρ : Operand → Value} {o : Op} {t : TypeId} {K : Value → World → Option β} : evOp P ρ o t w K = (evOp P ρ o t w ret2).bind (to2 K) := by
  cases o <;> simp only [evOp] <;> try rfl
  case pick => split
               case h_1 => split <;> rfl
               case h_2 => rfl
  case alloc => split <;> rfl
  case build t parts => exact lin_w (f := fun γ K => evBuild P t (parts.map fun (i, x) => (i, ρ x)) K) fun _ _ => lin_evBuild
  case buildSlice => exact lin_evBuildS
  case load t a =>
    split
    · exact lin_w (f := fun γ K => loadT P t w _ K) fun _ _ => lin_loadT
    · rfl
  case store =>
    split
    · rw [lin_storeT]
      conv => rhs; rw [lin_storeT]
      rw [Option.bind_assoc]
      rfl
    · rfl
  case nilCheck => exact lin_evNil
  case binOp => exact lin_evBin
  case unOp op t x => exact lin_w (f := fun γ K => unI op (ρ x) K) fun _ _ => lin_unI
  case convert => exact lin_evConv
  case fieldAddr s x f => exact lin_w (f := fun γ K => evFieldA P s (ρ x) f K) fun _ _ => lin_evFieldA
  case field s x f => exact lin_w (f := fun γ K => evField P s (ρ x) f K) fun _ _ => lin_evField
  case indexAddr t x i => exact lin_w (f := fun γ K => evIdxA P t (ρ x) (ρ i) K) fun _ _ => lin_evIdxA
  case index => exact lin_evIndex
  case slice t x lo hi mx => exact lin_w (f := fun γ K => evSlice P t (ρ x) (lo.map ρ) (hi.map ρ) (mx.map ρ) K) fun _ _ => lin_evSlice
  case lookup t x i ok => exact lin_w (f := fun γ K => evLookup P t (ρ x) (ρ i) ok w K) fun _ _ => lin_evLookup
  case mapUpdate =>
    rw [lin_evMapUpd]
    conv => rhs; rw [lin_evMapUpd]
    rw [Option.bind_assoc]
    rfl
  case insert =>
    rw [lin_evMapUpd]
    conv => rhs; rw [lin_evMapUpd]
    rw [Option.bind_assoc]
    rfl
  case makeMap t r => cases r <;> rfl
  case makeSlice => exact lin_evMakeS
  case makeInterface => split <;> rfl
  case extract tt i =>
    split
    case h_1 =>
      rw [Option.bind_assoc]
      congr 1
      funext v
      rw [lin_castT]
      conv => rhs; rw [lin_castT]
      rw [Option.bind_assoc]
      rfl
    case h_2 => rfl
  case range =>
    rw [Option.bind_assoc]
    congr 1
    funext q
    cases asP q.1 <;> rfl
  case next =>
    rw [Option.bind_assoc]
    congr 1
    funext q
    rw [Option.bind_assoc]
    congr 1
    funext o
    cases o <;> rfl
  case entry =>
    rw [Option.bind_assoc]
    congr 1
    funext q
    rw [Option.bind_assoc]
    rfl
  case mapEntry => rw [Option.bind_assoc]; rfl
  case entryStore => rw [Option.bind_assoc]; rfl
  case typeAssert => exact lin_q (f := fun γ v K => castT P t v K) fun _ _ _ => lin_castT
  case call => exact lin_evCall
end
end Go.Ev
