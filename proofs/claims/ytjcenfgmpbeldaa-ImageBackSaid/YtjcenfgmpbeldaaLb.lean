/-
  An evaluator of the code of the model, in Option, and the proof that what it answers is what a call comes to, for whatever program: part Lb. No condition.
-/
import Derived.Test.YtjcenfgmpbeldaaEv14
import Derived.Laws.LoneSync
import Derived.Below
namespace Go.Ev
open Go






@[simp] theorem asI_int (k : IntKind) (n : Int) : asI k (.int k n) = some n := by simp [asI]
@[simp] theorem asB_bool (b : Bool) : asB (.bool b) = some b := id rfl
@[simp] theorem asS_string (s : ByteArray) : asS (.string s) = some s := id rfl
@[simp] theorem asP_pointer (p : Option Addr) : asP (.pointer p) = some p := id rfl
@[simp] theorem asSl_slice (a : Option Addr) (n c : Nat) : asSl (.slice a n c) = some (a, n, c) := id rfl
@[simp] theorem asM_map (m : Option Nat) : asM (.map m) = some m := id rfl
theorem obs {α β : Type} (a : α) (f : α → Option β) : (some a).bind f = f a := id rfl
@[simp] theorem asTup0 : asTup 0 (.tuple #[]) = some [] := id rfl
@[simp] theorem asTup1 (a : Value) : asTup 1 (.tuple #[a]) = some [a] := id rfl
@[simp] theorem asTup2 (a b : Value) : asTup 2 (.tuple #[a, b]) = some [a, b] := id rfl
@[simp] theorem asTup3 (a b c : Value) : asTup 3 (.tuple #[a, b, c]) = some [a, b, c] := id rfl
@[simp] theorem asTup4 (a b c d : Value) : asTup 4 (.tuple #[a, b, c, d]) = some [a, b, c, d] := id rfl
@[simp] theorem asTup5 (a b c d e : Value) : asTup 5 (.tuple #[a, b, c, d, e]) = some [a, b, c, d, e] := id rfl
@[simp] theorem asTup6 (a b c d e f : Value) : asTup 6 (.tuple #[a, b, c, d, e, f]) = some [a, b, c, d, e, f] := id rfl
@[simp] theorem asTup7 (a b c d e f g : Value) : asTup 7 (.tuple #[a, b, c, d, e, f, g]) = some [a, b, c, d, e, f, g] := id rfl
@[simp] theorem asTup8 (a b c d e f g h : Value) : asTup 8 (.tuple #[a, b, c, d, e, f, g, h]) = some [a, b, c, d, e, f, g, h] := id rfl
@[simp] theorem asTup9 (a b c d e f g h i : Value) : asTup 9 (.tuple #[a, b, c, d, e, f, g, h, i]) = some [a, b, c, d, e, f, g, h, i] := id rfl
@[simp] theorem getD0 (x : Value) (l : List Value) (u : Value) : (x :: l).getD 0 u = x := id rfl
@[simp] theorem getD1 (x y : Value) (l : List Value) (u : Value) : (x :: y :: l).getD 1 u = y := id rfl
@[simp] theorem getD2 (x y z : Value) (l : List Value) (u : Value) : (x :: y :: z :: l).getD 2 u = z := id rfl
@[simp] theorem getD3 (x y z p : Value) (l : List Value) (u : Value) : (x :: y :: z :: p :: l).getD 3 u = p := id rfl
@[simp] theorem getD4 (x y z p q : Value) (l : List Value) (u : Value) : (x :: y :: z :: p :: q :: l).getD 4 u = q := id rfl
@[simp] theorem getD5 (x y z p q r : Value) (l : List Value) (u : Value) : (x :: y :: z :: p :: q :: r :: l).getD 5 u = r := id rfl
@[simp] theorem getD6 (x y z p q r s : Value) (l : List Value) (u : Value) : (x :: y :: z :: p :: q :: r :: s :: l).getD 6 u = s := id rfl
@[simp] theorem getD7 (x y z p q r s t : Value) (l : List Value) (u : Value) : (x :: y :: z :: p :: q :: r :: s :: t :: l).getD 7 u = t := id rfl
@[simp] theorem getD8 (x y z p q r s t v : Value) (l : List Value) (u : Value) : (x :: y :: z :: p :: q :: r :: s :: t :: v :: l).getD 8 u = v := id rfl
@[simp] theorem getD9 (x y z p q r s t v w : Value) (l : List Value) (u : Value) : (x :: y :: z :: p :: q :: r :: s :: t :: v :: w :: l).getD 9 u = w := id rfl
@[simp] theorem getD10 (x y z p q r s t v w a : Value) (l : List Value) (u : Value) : (x :: y :: z :: p :: q :: r :: s :: t :: v :: w :: a :: l).getD 10 u = a := id rfl
@[simp] theorem getD11 (x y z p q r s t v w a b : Value) (l : List Value) (u : Value) : (x :: y :: z :: p :: q :: r :: s :: t :: v :: w :: a :: b :: l).getD 11 u = b := id rfl

/-! ## a block, and its cells -/
section
variable {w : World} {b : Nat} {c : Array Value} {T : TypeId} {fr : Nat × Nat}

theorem cell_blk (h : w.heap[b]? = some (.cells c T fr)) (i : Nat) : w.cell? ⟨b, i, none⟩ = c[i]? := by
  simp [World.cell?, h]

theorem lt_of_blk {o : Obj} (h : w.heap[b]? = some o) : b < w.heap.size := by
  rcases Nat.lt_or_ge b w.heap.size with h' | h'
  · exact h'
  · rw [Array.getElem?_eq_none h'] at h; cases h

theorem frozen_blk (h : w.heap[b]? = some (.cells c T (0, 0))) (i : Nat) : w.frozen? ⟨b, i, none⟩ = false := by
  simp [World.frozen?, h]

theorem st1_blk {i : Nat} {v u : Value} (h : w.heap[b]? = some (.cells c T (0, 0))) (hi : c[i]? = some u) (hv : v.oneCell' = true) :
    st1 w ⟨b, i, none⟩ v = some (w.setCell ⟨b, i, none⟩ v) := by
  unfold st1
  rw [if_pos hv, cell_blk h, hi]
  simp [frozen_blk h]

theorem setCell_blk {i : Nat} {v : Value} (h : w.heap[b]? = some (.cells c T fr)) : (w.setCell ⟨b, i, none⟩ v).heap[b]? = some (.cells (c.setIfInBounds i v) T fr) := by
  simp [World.setCell, Array.getElem?_modify, h]

theorem setCell_blk_ne {k : Nat} {a : Addr} {v : Value} (h : k ≠ a.block) : (w.setCell a v).heap[k]? = w.heap[k]? := Go.RowKit.Below.heap_setCell w a v k h

theorem alloc_blk_new (o : Obj) : (w.alloc o).heap[w.heap.size]? = some o := by
  show (w.heap.push o)[w.heap.size]? = some o
  simp

theorem alloc_blk {o o' : Obj} (h : w.heap[b]? = some o') : (w.alloc o).heap[b]? = some o' := by
  rw [Go.RowKit.Below.heap_alloc w o b (lt_of_blk h)]; exact h

@[simp] theorem drew_blk : w.drew.heap[b]? = w.heap[b]? := rfl
end

/-- but for the blocks of S, and new ones, the world is as it was -/
structure Fr (S : List Nat) (w w' : World) : Prop where
  os : w'.os = w.os
  tape : w'.tape = w.tape
  output : w'.output = w.output
  size : w.heap.size ≤ w'.heap.size
  keep : ∀ k, k < w.heap.size → k ∉ S → w'.heap[k]? = w.heap[k]?

namespace Fr
variable {S T : List Nat} {w w' w'' : World}
theorem refl (S : List Nat) (w : World) : Fr S w w := ⟨rfl, rfl, rfl, Nat.le_refl _, fun _ _ _ => rfl⟩
theorem trans (h : Fr S w w') (h' : Fr S w' w'') : Fr S w w'' :=
  ⟨h'.os.trans h.os, h'.tape.trans h.tape, h'.output.trans h.output, Nat.le_trans h.size h'.size, fun k hk hS =>
    (h'.keep k (Nat.lt_of_lt_of_le hk h.size) hS).trans (h.keep k hk hS)⟩
theorem mono (h : Fr S w w') (hs : ∀ x ∈ S, x < w.heap.size → x ∈ T) : Fr T w w' :=
  ⟨h.os, h.tape, h.output, h.size, fun k hk hT => h.keep k hk fun hm => hT (hs k hm hk)⟩
theorem blk {b : Nat} {o : Obj} (h : Fr S w w') (hb : w.heap[b]? = some o) (hS : b ∉ S) : w'.heap[b]? = some o := by
  rw [h.keep b (lt_of_blk hb) hS]; exact hb
theorem setCell {b i : Nat} {v : Value} : Fr [b] w (w.setCell ⟨b, i, none⟩ v) :=
  ⟨rfl, rfl, rfl, by simp, fun k _ hk => setCell_blk_ne (by simpa using hk)⟩
theorem alloc (o : Obj) : Fr [] w (w.alloc o) := ⟨rfl, rfl, rfl, by simp, fun k hk _ => Go.RowKit.Below.heap_alloc w o k hk⟩
theorem drew (S : List Nat) (w : World) : Fr S w w.drew := ⟨rfl, rfl, rfl, Nat.le_refl _, fun _ _ _ => rfl⟩
theorem nil (h : Fr [] w w') : Fr S w w' := h.mono fun _ hx => by cases hx
/-- what is touched is new -/
theorem below (h : Fr S w w') {B : Nat} (hB : B ≤ w.heap.size) (hS : ∀ x ∈ S, B ≤ x) : Go.RowKit.Below B w w' :=
  ⟨h.os, h.tape, h.output, h.size, fun k hk => h.keep k (by omega) fun hm => by have := hS k hm; omega⟩
end Fr

/-! ## a slice of integers that is read -/
/-- the slice s reads as these numbers -/
def SlI (k : IntKind) (w : World) (s : Option Addr × Nat × Nat) (zs : List Int) : Prop :=
  zs.length = s.2.1 ∧ (0 < s.2.1 → ∃ b off, s.1 = some ⟨b, off, none⟩ ∧ b < w.heap.size ∧ ∀ i (h : i < zs.length), w.cell? ⟨b, off + i, none⟩ = some (.int k zs[i]))

theorem addr_add {b off n : Nat} : Addr.add ⟨b, off, none⟩ n = ⟨b, off + n, none⟩ := by
  unfold Addr.add
  split
  · rename_i h; subst h; rfl
  · rfl

theorem SlI.get {k : IntKind} {w : World} {s : Option Addr × Nat × Nat} {zs : List Int} (h : SlI k w s zs) {i : Nat} (hi : i < zs.length) :
    ∃ a, idxA s.1 s.2.1 1 (i : Int) = some a ∧ w.cell? a = some (.int k zs[i]) := by
  have hlt : i < s.2.1 := by rw [← h.1]; exact hi
  obtain ⟨b, off, h1, _, h2⟩ := h.2 (by omega)
  refine ⟨⟨b, off + i, none⟩, ?_, h2 i hi⟩
  unfold idxA
  rw [if_pos (by omega), h1]
  simp [addr_add]

theorem cell_of_blk_eq {w w' : World} {a : Addr} (h : w'.heap[a.block]? = w.heap[a.block]?) : w'.cell? a = w.cell? a := by
  unfold World.cell?; rw [h]

theorem SlI.fr {k : IntKind} {w w' : World} {s : Option Addr × Nat × Nat} {zs : List Int} {S : List Nat} (h : SlI k w s zs) (hf : Fr S w w') {B : Nat} (hB : ∀ a, s.1 = some a → 0 < s.2.1 → a.block < B) (hS : ∀ x ∈ S, B ≤ x) :
    SlI k w' s zs := by
  refine ⟨h.1, fun h0 => ?_⟩
  obtain ⟨b, off, h1, h2, h3⟩ := h.2 h0
  have hb : b < B := hB _ h1 h0
  refine ⟨b, off, h1, Nat.lt_of_lt_of_le h2 hf.size, fun i hi => ?_⟩
  rw [cell_of_blk_eq (w := w) (hf.keep b h2 fun hm => by have := hS b hm; omega)]
  exact h3 i hi

/-- the row of a slice that came in, as it reads -/
theorem slI_of_row {k : IntKind} {w : World} {a : Option Addr} {len cap : Nat} {zs : List Int}
    (h : (a = none ∧ len = 0 ∧ cap = 0 ∧ zs = []) ∨ ∃ x, a = some x ∧ len ≤ cap ∧ zs.length = cap ∧ (∀ i, i < zs.length → w.cell? (x.add i) = some (.int k (zs.getD i 0)))) :
    SlI k w (a, len, cap) (zs.take len) ∧ (∀ x, (a, len, cap).1 = some x → 0 < len → x.block < w.heap.size) := by
  rcases h with ⟨rfl, rfl, rfl, rfl⟩ | ⟨x, rfl, hl, hz, hc⟩
  · exact ⟨⟨rfl, fun h => absurd h (by decide)⟩, fun _ h => by cases h⟩
  · have hx : ∀ i, i < zs.length → x.spot = none ∧ x.block < w.heap.size := by
      intro i hi
      have h0 := hc 0 (by omega)
      have hlt : x.block < w.heap.size := World.block_lt_of_cell? w x h0
      have hs : x.spot = none := by
        unfold World.cell? at h0
        split at h0
        · split at h0
          · cases h0
          · rename_i hs; simpa [Addr.add] using hs
        · cases h0
      exact ⟨hs, hlt⟩
    refine ⟨⟨by simp; omega, fun h0 => ?_⟩, fun y hy h0 => ?_⟩
    · have h0' : 0 < len := h0
      obtain ⟨hs, hb⟩ := hx 0 (by omega)
      obtain ⟨b, off, sp⟩ := x
      simp only at hs hb
      subst hs
      refine ⟨b, off, rfl, hb, fun i hi => ?_⟩
      simp only [List.length_take] at hi
      have := hc i (by omega)
      rw [addr_add] at this
      rw [this]
      simp [List.getD, List.getElem?_eq_getElem (show i < zs.length by omega)]
    · simp only [Option.some.injEq] at hy
      subst hy
      exact (hx 0 (by omega)).2

/-- a call, as the rows want it -/
theorem calls_below {P : Program} {f : FuncId} {args : Array Value} {w w' : World} {v : Value}
    (hc : ∀ (args : Array Value) (w : World), (callFunc f args).run P w = .ok (.enter f args) w) (h : callF P f args w = some (v, w')) (hf : Fr [] w w') :
    Calls P f args w fun e w1 => e = .returned v ∧ Go.RowKit.Below w.heap.size w w1 :=
  (calls_of_callF hc h).mono fun _ _ ⟨a, b⟩ => ⟨a, b ▸ hf.below (Nat.le_refl _) fun _ hx => by cases hx⟩
end Go.Ev
