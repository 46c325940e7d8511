/-
  An evaluator of the code of the model, in Option, and the proof that what it answers is what a call comes to, for whatever program: part Rd. No condition.
-/
import Derived.Test.YtjcenfgmpbeldaaLb
import Derived.ChangeArms
import Derived.ChangeSlices
namespace Go.Ev
open Go Go.WideShapes

/-- how a value that came in is made: a struct is a row of its fields -/
inductive Ty where
  | int (k : IntKind) | bool | str
  | slice (t : Ty)
  | nil
  | cons (t ts : Ty)

@[reducible] def Ty.Val : Ty → Type
  | .int _ => Int
  | .bool => Bool
  | .str => ByteArray
  | .slice t => (Option Addr × Nat × Nat) × List t.Val
  | .nil => Unit
  | .cons t ts => t.Val × ts.Val

def Ty.size : Ty → Nat
  | .nil => 0
  | .cons t ts => t.size + ts.size
  | _ => 1

/-- the n cells from a on -/
def CellsAt (w : World) (a : Addr) (cs : List Value) : Prop := ∀ j (h : j < cs.length), w.cell? (a.add j) = some cs[j]

/-- the cells hold x -/
def Ty.At (w : World) : (t : Ty) → List Value → t.Val → Prop
  | .int k, cs, n => cs = [.int k n] ∧ k.min ≤ n ∧ n ≤ k.max
  | .bool, cs, b => cs = [.bool b]
  | .str, cs, s => cs = [.string s] ∧ s.size ≤ maxLen
  | .slice t, cs, x => cs = [.slice x.1.1 x.1.2.1 x.1.2.2] ∧ x.2.length = x.1.2.1 ∧ x.1.2.1 ≤ x.1.2.2 ∧ x.1.2.2 ≤ maxLen ∧ (x.1.1 = none → x.1.2.2 = 0) ∧
      ∀ a, x.1.1 = some a → ∀ i (h : i < x.2.length), ∃ cs', cs'.length = t.size ∧ CellsAt w (a.add (i * t.size)) cs' ∧ Ty.At w t cs' x.2[i]
  | .nil, cs, _ => cs = []
  | .cons t ts, cs, x => ∃ c1 c2, cs = c1 ++ c2 ∧ c1.length = t.size ∧ Ty.At w t c1 x.1 ∧ Ty.At w ts c2 x.2

def okFs (g : TypeId → Ty → Bool) (P : Program) : List Field → Nat → Ty → Bool
  | [], _, .nil => true
  | f :: fs, off, .cons t ts => f.offset == off && P.cellsOf f.type == t.size && g f.type t && okFs g P fs (off + t.size) ts
  | _, _, _ => false

/-- is a type of the program made so? -/
def okTy (P : Program) : Nat → TypeId → Ty → Bool
  | 0, _, _ => false
  | n + 1, t, c => match P.underlying t, c with
    | some (.int k), .int k' => decide (k = k')
    | some .bool, .bool => true
    | some .string, .str => true
    | some (.slice e), .slice c' => P.cellsOf e == c'.size && okTy P n e c'
    | some (.struct fs), c => P.cellsOf t == c.size && okFs (okTy P n) P fs.toList 0 c
    | _, _ => false

/-- how many values and letters it holds -/
def Ty.bulk : (t : Ty) → t.Val → Nat
  | .int _, _ => 1
  | .bool, _ => 1
  | .str, s => s.size + 1
  | .slice t, x => ((x.2.map t.bulk).sum) + 1
  | .nil, _ => 0
  | .cons t ts, x => t.bulk x.1 + ts.bulk x.2

def dBulks {H : Type} (bulk : DataW H → Nat) : List (DataW H) → Nat
  | [] => 0
  | d :: r => bulk d + dBulks bulk r

/-- a count of what a reading holds that is fit for a bound -/
structure Counts {H : Type} (bulk : DataW H → Nat) : Prop where
  lit : ∀ l : Lit, 1 ≤ bulk (.lit l)
  str : ∀ bs, bs.length + 1 ≤ bulk (.lit (.string bs))
  slice : ∀ es sp, dBulks bulk es + 1 ≤ bulk (.slice es sp)
  agg : ∀ ps, dBulks bulk ps ≤ bulk (.agg ps)
  nil : 1 ≤ bulk .nil

theorem cells?_at {w : World} {base n : Nat} {a : Addr} {cs : List Value} (h : w.cells? base a n = some cs) : cs.length = n ∧ CellsAt w a cs := by
  unfold World.cells? at h
  split at h
  · have key : ∀ (l : List Nat) (cs : List Value), l.mapM (fun i => w.cell? (a.add i)) = some cs → cs.length = l.length ∧ ∀ j (hj : j < cs.length) (hl : j < l.length), w.cell? (a.add l[j]) = some cs[j] := by
      intro l
      induction l with
      | nil => intro cs h; simp at h; subst h; exact ⟨rfl, fun j hj => absurd hj (Nat.not_lt_zero _)⟩
      | cons x l ih =>
        intro cs h
        rw [List.mapM_cons] at h
        cases hx : w.cell? (a.add x) with
        | none => rw [hx] at h; cases h
        | some v =>
          rw [hx] at h
          cases hm : l.mapM (fun i => w.cell? (a.add i)) with
          | none => simp [hm] at h
          | some us =>
            simp [hm] at h
            subst h
            obtain ⟨h1, h2⟩ := ih us hm
            refine ⟨by simp [h1], fun j hj hl => ?_⟩
            cases j with
            | zero => simpa using hx
            | succ j => simpa using h2 j (by simpa using hj) (by simpa using hl)
    obtain ⟨h1, h2⟩ := key _ _ h
    refine ⟨by simpa using h1, fun j hj => ?_⟩
    have := h2 j hj (by rw [← h1]; exact hj)
    simpa using this
  · cases h

section
variable {H : Type} {enc : TypeId × Value → H} {P : Program} {w : World} {base : Nat} {spare : Nat → Bool} {held : Bool} {bulk : DataW H → Nat}

theorem wf_range {k : IntKind} {n : Int} (h : (Lit.int k n).wf = true) : k.min ≤ n ∧ n ≤ k.max := by
  simpa [Lit.wf] using h

theorem rd (hcnt : Counts bulk) : ∀ (m : Nat) (fuel : Nat) (t : TypeId) (c : Ty) (cs : List Value) (x : DataW H × List MemPlace), okTy P m t c = true →
    DataW.trod enc P w base spare held fuel t cs = some x → ∃ v : c.Val, c.At w cs v ∧ c.bulk v ≤ bulk x.1 := by
  intro m
  induction m with
  | zero => intro fuel t c cs x h; cases h
  | succ m ih =>
    intro fuel t c cs x hok h
    unfold okTy at hok
    split at hok
    · rename_i k k' ht
      have : k = k' := of_decide_eq_true hok
      subst this
      obtain ⟨n, rfl, rfl, hw⟩ := DataW.trod_int ht h
      exact ⟨n, ⟨rfl, wf_range hw⟩, hcnt.lit _⟩
    · rename_i ht
      obtain ⟨b, rfl, rfl⟩ := DataW.trod_bool ht h
      exact ⟨b, rfl, hcnt.lit _⟩
    · rename_i ht
      obtain ⟨s, rfl, rfl, hs⟩ := DataW.trod_string ht h
      refine ⟨s, ⟨rfl, hs⟩, ?_⟩
      have := hcnt.str s.data.toList
      simpa [Ty.bulk] using this
    · rename_i e c' ht
      simp only [Bool.and_eq_true, beq_iff_eq] at hok
      rcases DataW.trod_slice ht h with ⟨rfl, rfl⟩ | ⟨a, len, cap, elems, rest, n, _, rfl, rfl, hb, hl, hm, hlen, hel, _, _⟩
      · refine ⟨((none, 0, 0), []), ⟨rfl, rfl, Nat.le_refl _, Nat.zero_le _, fun _ => rfl, fun a ha => (by cases ha)⟩, ?_⟩
        simpa [Ty.bulk] using hcnt.nil
      · have each : ∀ i (hi : i < len), ∃ v : c'.Val, (∃ cs', cs'.length = c'.size ∧ CellsAt w (a.add (i * c'.size)) cs' ∧ c'.At w cs' v) ∧ ∀ y, elems[i]? = some y → c'.bulk v ≤ bulk y.1 := by
          intro i hi
          have h1 := hel i hi
          have hi' : i < elems.length := by rw [hlen]; exact hi
          rw [List.getElem?_eq_getElem hi', hok.1] at h1
          obtain ⟨cs', h2, h3⟩ := bind_some_iff' h1
          obtain ⟨h4, h5⟩ := cells?_at h2
          obtain ⟨v, h6, h7⟩ := ih _ _ _ _ _ hok.2 h3
          refine ⟨v, ⟨cs', h4, h5, h6⟩, fun y hy => ?_⟩
          rw [List.getElem?_eq_getElem hi'] at hy
          simp only [Option.some.injEq] at hy
          subst hy; exact h7
        -- one list of them
        have lst : ∀ n, n ≤ len → ∃ l : List c'.Val, l.length = n ∧ (∀ i (hi : i < l.length), ∃ cs', cs'.length = c'.size ∧ CellsAt w (a.add (i * c'.size)) cs' ∧ c'.At w cs' l[i]) ∧
            (l.map c'.bulk).sum ≤ dBulks bulk ((elems.take n).map (·.1)) := by
          intro n
          induction n with
          | zero => intro _; exact ⟨[], rfl, fun i hi => absurd hi (Nat.not_lt_zero _), by simp [dBulks]⟩
          | succ n ihn =>
            intro hn
            obtain ⟨l, h1, h2, h3⟩ := ihn (by omega)
            obtain ⟨v, h4, h5⟩ := each n (by omega)
            refine ⟨l ++ [v], by simp [h1], fun i hi => ?_, ?_⟩
            · by_cases hin : i < l.length
              · obtain ⟨cs', g1, g2, g3⟩ := h2 i hin
                exact ⟨cs', g1, g2, by rw [List.getElem_append_left hin]; exact g3⟩
              · have : i = n := by simp at hi; omega
                subst this
                obtain ⟨cs', g1, g2, g3⟩ := h4
                refine ⟨cs', g1, g2, ?_⟩
                rw [List.getElem_append_right (by omega)]
                simpa [h1] using g3
            · have hi' : n < elems.length := by omega
              rw [List.take_succ_eq_append_getElem hi']
              have hsum : ∀ (xs ys : List (DataW H)), dBulks bulk (xs ++ ys) = dBulks bulk xs + dBulks bulk ys := by
                intro xs ys
                induction xs with
                | nil => simp [dBulks]
                | cons x xs ih => simp only [List.cons_append, dBulks, ih]; omega
              rw [List.map_append, List.map_append, hsum]
              have h6 := h5 _ (List.getElem?_eq_getElem hi')
              simp only [List.map_cons, List.map_nil, List.sum_append, List.sum_cons, List.sum_nil, dBulks]
              omega
        obtain ⟨l, h1, h2, h3⟩ := lst len (Nat.le_refl _)
        refine ⟨((some a, len, cap), l), ⟨rfl, h1, hl, hm, fun h => (by cases h), fun a' ha => ?_⟩, ?_⟩
        · simp only [Option.some.injEq] at ha
          subst ha; exact h2
        · rw [List.take_of_length_le (by omega)] at h3
          have := hcnt.slice (elems.map (·.1)) (rest.map (·.1))
          simp only [Ty.bulk]
          omega
    · rename_i c _ _ fs ht
      simp only [Bool.and_eq_true, beq_iff_eq] at hok
      obtain ⟨xs, n, _, rfl, hcl, hxl, hf⟩ := DataW.trod_struct ht h
      have key : ∀ (l : List Field) (ys : List (DataW H × List MemPlace)) (off : Nat) (c : Ty) (cs0 : List Value), okFs (okTy P m) P l off c = true → l.length = ys.length →
          (∀ (i : Nat) (f : Field), l[i]? = some f → DataW.trod enc P w base spare held n f.type ((cs.drop f.offset).take (P.cellsOf f.type)) = ys[i]?) →
          cs.drop off = cs0 → cs0.length = c.size → ∃ v : c.Val, c.At w cs0 v ∧ c.bulk v ≤ dBulks bulk (ys.map (·.1)) := by
        intro l
        induction l with
        | nil =>
          intro ys off c cs0 hok hlen _ hcs hl0
          cases c <;> simp only [okFs] at hok <;> first | (cases hok; done) | skip
          have : cs0 = [] := List.length_eq_zero_iff.1 hl0
          exact ⟨(), this, Nat.zero_le _⟩
        | cons f l ihl =>
          intro ys off c cs0 hok hlen hread hcs hl0
          cases c <;> simp only [okFs] at hok <;> first | (cases hok; done) | skip
          rename_i t1 ts
          simp only [Bool.and_eq_true, beq_iff_eq] at hok
          obtain ⟨⟨⟨ho1, ho2⟩, ho3⟩, ho4⟩ := hok
          cases ys with
          | nil => simp at hlen
          | cons y ys =>
            have hy := hread 0 f rfl
            simp only [List.getElem?_cons_zero, ho1, ho2, hcs] at hy
            obtain ⟨v1, g1, g2⟩ := ih _ _ _ _ _ ho3 hy
            simp only [Ty.size] at hl0
            obtain ⟨v2, g3, g4⟩ := ihl ys (off + t1.size) ts (cs0.drop t1.size) ho4 (by simpa using hlen) (fun i f' hf' => by
              have := hread (i + 1) f' (by simpa using hf')
              simpa using this) (by rw [← hcs, List.drop_drop]) (by simp; omega)
            refine ⟨(v1, v2), ⟨cs0.take t1.size, cs0.drop t1.size, (List.take_append_drop _ _).symm, by simp; omega, g1, g3⟩, ?_⟩
            simp only [Ty.bulk, List.map_cons, dBulks]
            omega
      obtain ⟨v, g1, g2⟩ := key fs.toList xs 0 c cs hok.2 (by simpa using hxl.symm) (fun i f hfi => hf i f (by simpa using hfi)) rfl (by omega)
      exact ⟨v, g1, Nat.le_trans g2 (hcnt.agg _)⟩
    · cases hok

/-- what was there stays as it was -/
def Old (W w : World) : Prop := W.heap.size ≤ w.heap.size ∧ ∀ k, k < W.heap.size → w.heap[k]? = W.heap[k]?

theorem Old.refl (W : World) : Old W W := ⟨Nat.le_refl _, fun _ _ => rfl⟩
theorem Old.fr {W w w' : World} {S : List Nat} (h : Old W w) (hf : Fr S w w') (hS : ∀ x ∈ S, W.heap.size ≤ x) : Old W w' :=
  ⟨Nat.le_trans h.1 hf.size, fun k hk => (hf.keep k (Nat.lt_of_lt_of_le hk h.1) fun hm => by have := hS k hm; omega).trans (h.2 k hk)⟩
theorem Old.cell {W w : World} (h : Old W w) {a : Addr} {v : Value} (hc : W.cell? a = some v) : w.cell? a = some v := by
  rw [cell_of_blk_eq (w := W) (h.2 a.block (World.block_lt_of_cell? W a hc))]; exact hc

theorem CellsAt.old {W w : World} (h : Old W w) {a : Addr} {cs : List Value} (hc : CellsAt W a cs) : CellsAt w a cs := fun j hj => h.cell (hc j hj)

set_option linter.unusedVariables false in
theorem at_old {W w : World} (h : Old W w) : ∀ (t : Ty) (cs : List Value) (x : t.Val), t.At W cs x → t.At w cs x
  | .int _, _, _, hx => hx
  | .bool, _, _, hx => hx
  | .str, _, _, hx => hx
  | .slice t, _, x, ⟨h1, h2, h3, h4, h5, h6⟩ => ⟨h1, h2, h3, h4, h5, fun a ha i hi => let ⟨cs', g1, g2, g3⟩ := h6 a ha i hi; ⟨cs', g1, g2.old h, at_old h t cs' _ g3⟩⟩
  | .nil, _, _, hx => hx
  | .cons t ts, _, x, ⟨c1, c2, h1, h2, h3, h4⟩ => ⟨c1, c2, h1, h2, at_old h t c1 _ h3, at_old h ts c2 _ h4⟩

theorem ldN_of_cells {w : World} {a : Addr} : ∀ {cs : List Value} {i : Nat}, (∀ j (h : j < cs.length), w.cell? (a.add (i + j)) = some cs[j]) → ldN w a i cs.length = some cs
  | [], _, _ => rfl
  | c :: cs, i, h => by
    have h0 := h 0 (by simp)
    simp only [Nat.add_zero, List.getElem_cons_zero] at h0
    have := ldN_of_cells (cs := cs) (i := i + 1) fun j hj => by
      have := h (j + 1) (by simpa using hj)
      rw [show i + 1 + j = i + (j + 1) by omega]
      simpa using this
    simp only [List.length_cons, ldN, h0, this, Option.bind_some]

theorem CellsAt.ldN {w : World} {a : Addr} {cs : List Value} (h : CellsAt w a cs) {n : Nat} (hn : cs.length = n) : ldN w a 0 n = some cs := by
  subst hn
  exact ldN_of_cells fun j hj => by simpa using h j hj

/-- an element of a slice that came in -/
theorem slice_get {w : World} {t : Ty} {cs : List Value} {x : (Ty.slice t).Val} (h : (Ty.slice t).At w cs x) {i : Nat} (hi : i < x.2.length) :
    ∃ a cs', idxA x.1.1 x.1.2.1 t.size (i : Int) = some a ∧ cs'.length = t.size ∧ CellsAt w a cs' ∧ t.At w cs' x.2[i] := by
  obtain ⟨_, h2, h3, _, h5, h6⟩ := h
  cases ha : x.1.1 with
  | none => have := h5 ha; omega
  | some a =>
    obtain ⟨cs', g1, g2, g3⟩ := h6 a ha i hi
    refine ⟨a.add (i * t.size), cs', ?_, g1, g2, g3⟩
    unfold idxA
    rw [if_pos (by omega)]
    simp
end
end Go.Ev
