/-
  An evaluator of the code of the model, in Option, and the proof that what it answers is what a call comes to, for whatever program: part Lb2. No condition.
-/
import Derived.Test.YtjcenfgmpbeldaaRd
namespace Go.Ev
open Go

section
variable {w : World}

theorem alloc_cell {c : Array Value} {T : TypeId} {i : Nat} : (w.alloc (.cells c T)).cell? ⟨w.heap.size, i, none⟩ = c[i]? :=
  cell_blk (alloc_blk_new _) i

theorem setCell_alloc {c : Array Value} {T : TypeId} {i : Nat} {v : Value} :
    (w.alloc (.cells c T)).setCell ⟨w.heap.size, i, none⟩ v = w.alloc (.cells (c.setIfInBounds i v) T) := by
  simp only [World.setCell, World.alloc]
  congr 1
  apply Array.ext
  · simp
  · intro j h1 h2
    simp only [Array.getElem_modify, Array.getElem_push]
    by_cases hj : w.heap.size = j
    · subst hj; simp
    · simp only [hj, if_false]
      have : j < w.heap.size := by simp at h1; omega
      simp [this]

theorem st1_alloc {c : Array Value} {T : TypeId} {i : Nat} {v : Value} (hv : v.oneCell' = true) (hi : i < c.size) :
    st1 (w.alloc (.cells c T)) ⟨w.heap.size, i, none⟩ v = some (w.alloc (.cells (c.setIfInBounds i v) T)) := by
  rw [st1_blk (u := c[i]) (alloc_blk_new _) (by simp [hi]) hv, setCell_alloc]

theorem stL_new_aux {T : TypeId} : ∀ {vs zs ps : List Value}, vs.length = zs.length → (∀ v ∈ vs, v.oneCell' = true) →
    stL (w.alloc (.cells (ps ++ zs).toArray T)) ⟨w.heap.size, 0, none⟩ vs ps.length = some (w.alloc (.cells (ps ++ vs).toArray T))
  | [], [], _, _, _ => rfl
  | v :: vs, z :: zs, ps, h, hv => by
    have h2 := stL_new_aux (T := T) (vs := vs) (zs := zs) (ps := ps ++ [v]) (by simpa using h) (fun x hx => hv x (by simp [hx]))
    rw [stL, addr_add, Nat.zero_add, st1_alloc (hv v (by simp)) (by simp)]
    simp only [Option.bind_some]
    have e : (ps ++ z :: zs).toArray.setIfInBounds ps.length v = (ps ++ [v] ++ zs).toArray := by simp
    rw [e]
    simpa using h2

/-- what is laid, field by field, over a block that is new -/
theorem stL_new {T : TypeId} {vs zs : List Value} (h : vs.length = zs.length) (hv : ∀ v ∈ vs, v.oneCell' = true) :
    stL (w.alloc (.cells zs.toArray T)) ⟨w.heap.size, 0, none⟩ vs 0 = some (w.alloc (.cells vs.toArray T)) :=
  stL_new_aux (ps := []) h hv

@[simp] theorem oc_int {k : IntKind} {n : Int} : (Value.int k n).oneCell' = true := rfl
@[simp] theorem oc_bool {b : Bool} : (Value.bool b).oneCell' = true := rfl
@[simp] theorem oc_string {b : ByteArray} : (Value.string b).oneCell' = true := rfl
@[simp] theorem oc_pointer {p : Option Addr} : (Value.pointer p).oneCell' = true := rfl
@[simp] theorem oc_slice {p : Option Addr} {n c : Nat} : (Value.slice p n c).oneCell' = true := rfl
@[simp] theorem oc_map {m : Option Nat} : (Value.map m).oneCell' = true := rfl

/-- a row of cells that stands in memory, to be written -/
def Blk (w : World) (b : Nat) (cs : List Value) (T : TypeId) : Prop := w.heap[b]? = some (.cells cs.toArray T (0, 0))

namespace Blk
variable {b : Nat} {cs : List Value} {T : TypeId}
theorem cell (h : Blk w b cs T) (i : Nat) : w.cell? ⟨b, i, none⟩ = cs[i]? := by rw [cell_blk h]; simp
theorem new (w : World) (cs : List Value) (T : TypeId) : Blk (w.alloc (.cells cs.toArray T)) w.heap.size cs T := alloc_blk_new _
theorem fr {S : List Nat} {w' : World} (h : Blk w b cs T) (hf : Fr S w w') (hb : b ∉ S) : Blk w' b cs T := hf.blk h hb
theorem drew (h : Blk w b cs T) : Blk w.drew b cs T := h
theorem alloc {o : Obj} (h : Blk w b cs T) : Blk (w.alloc o) b cs T := alloc_blk h
theorem lt (h : Blk w b cs T) : b < w.heap.size := lt_of_blk h
theorem set (h : Blk w b cs T) (i : Nat) (v : Value) : Blk (w.setCell ⟨b, i, none⟩ v) b (cs.set i v) T := by
  unfold Blk; rw [setCell_blk h]; simp
theorem frozen (h : Blk w b cs T) (i : Nat) : w.frozen? ⟨b, i, none⟩ = false := frozen_blk h i
theorem st1 (h : Blk w b cs T) {i : Nat} {v : Value} (hi : i < cs.length) (hv : v.oneCell' = true) : Ev.st1 w ⟨b, i, none⟩ v = some (w.setCell ⟨b, i, none⟩ v) :=
  st1_blk (u := cs[i]) h (by simp [hi]) hv
end Blk
end

/-- a loop that comes to an end in n - k rounds, or leaves ahead of that -/
theorem loopS_rule {σ : Type} {b : σ → World → Option (Exit × σ × World)} {I : Nat → σ → World → Prop} {Q : Exit → σ → World → Prop} {n : Nat}
    (step : ∀ k s w, k < n → I k s w → ∃ e s' w', b s w = some (e, s', w') ∧ (e = .normal ∧ I (k + 1) s' w' ∨ e ≠ .normal ∧ Q e s' w'))
    (fin : ∀ s w, I n s w → ∃ e t w', b s w = some (e, t, w') ∧ e ≠ .normal ∧ Q e t w') {k : Nat} {s : σ} {w : World} (hk : k ≤ n) (h : I k s w) :
    ∃ e t w', loopS b s w = some (e, t, w') ∧ Q e t w' := by
  suffices H : ∀ d k s w, n - k = d → k ≤ n → I k s w → ∃ e t w', loopS b s w = some (e, t, w') ∧ Q e t w' from H _ k s w rfl hk h
  intro d
  induction d with
  | zero =>
    intro k s w hd hk h
    obtain rfl : k = n := by omega
    obtain ⟨e, t, w', h1, h2, h3⟩ := fin s w h
    exact ⟨e, t, w', loopS_out h2 h1, h3⟩
  | succ d ih =>
    intro k s w hd hk h
    obtain ⟨e, s', w', h1, h2⟩ := step k s w (by omega) h
    rcases h2 with ⟨rfl, h2⟩ | ⟨h2, h3⟩
    · obtain ⟨e, t, w2, h3, h4⟩ := ih (k + 1) s' w' (by omega) (by omega) h2
      exact ⟨e, t, w2, loopS_next h1 h3, h4⟩
    · exact ⟨e, s', w', loopS_out h2 h1, h3⟩

/-- a loop that runs to its end -/
theorem loopS_count {σ : Type} {b : σ → World → Option (Exit × σ × World)} {I : Nat → σ → World → Prop} {n : Nat}
    (step : ∀ k s w, k < n → I k s w → ∃ s' w', b s w = some (.normal, s', w') ∧ I (k + 1) s' w')
    (fin : ∀ s w, I n s w → b s w = some (.exit 0, s, w)) {k : Nat} {s : σ} {w : World} (hk : k ≤ n) (h : I k s w) :
    ∃ t w', loopS b s w = some (.exit 0, t, w') ∧ I n t w' := by
  obtain ⟨e, t, w', h1, rfl, h2⟩ := loopS_rule (Q := fun e t w => e = .exit 0 ∧ I n t w) (I := I) (n := n)
    (fun k s w hk h => let ⟨s', w', h1, h2⟩ := step k s w hk h; ⟨.normal, s', w', h1, .inl ⟨rfl, h2⟩⟩)
    (fun s w h => ⟨.exit 0, s, w, fin s w h, by simp, rfl, h⟩) hk h
  exact ⟨t, w', h1, h2⟩

/-- a loop that runs to its end -/
theorem loopS_countX (x : Nat) {σ : Type} {b : σ → World → Option (Exit × σ × World)} {I : Nat → σ → World → Prop} {n : Nat}
    (step : ∀ k s w, k < n → I k s w → ∃ s' w', b s w = some (.normal, s', w') ∧ I (k + 1) s' w')
    (fin : ∀ s w, I n s w → b s w = some (.exit x, s, w)) {k : Nat} {s : σ} {w : World} (hk : k ≤ n) (h : I k s w) :
    ∃ t w', loopS b s w = some (.exit x, t, w') ∧ I n t w' := by
  obtain ⟨e, t, w', h1, rfl, h2⟩ := loopS_rule (Q := fun e t w => e = .exit x ∧ I n t w) (I := I) (n := n)
    (fun k s w hk h => let ⟨s', w', h1, h2⟩ := step k s w hk h; ⟨.normal, s', w', h1, .inl ⟨rfl, h2⟩⟩)
    (fun s w h => ⟨.exit x, s, w, fin s w h, by simp, rfl, h⟩) hk h
  exact ⟨t, w', h1, h2⟩

theorem wrap_u64 {n : Int} (h0 : 0 ≤ n) (h1 : n < 18446744073709551616) : IntKind.u64.wrap n = n := by
  have e : IntKind.u64.wrap n = n % 18446744073709551616 := by simp [IntKind.wrap, IntKind.bits, IntKind.signed]
  rw [e, Int.emod_eq_of_lt h0 h1]
theorem wrap_i64 {n : Int} (h0 : -9223372036854775808 ≤ n) (h1 : n < 9223372036854775808) : IntKind.i64.wrap n = n := by
  have e : IntKind.i64.wrap n = (if 9223372036854775808 ≤ n % 18446744073709551616 then n % 18446744073709551616 - 18446744073709551616 else n % 18446744073709551616) := by simp [IntKind.wrap, IntKind.bits, IntKind.signed]
  rw [e]; split <;> omega
theorem wrap_succ {n : Nat} (h1 : n + 1 < 9223372036854775808) : IntKind.i64.wrap ((n : Int) + 1) = ((n + 1 : Nat) : Int) := by
  rw [wrap_i64 (by omega) (by omega)]; omega
theorem u64_range {n : Int} (h : IntKind.u64.min ≤ n ∧ n ≤ IntKind.u64.max) : 0 ≤ n ∧ n < 18446744073709551616 := by
  have h1 : IntKind.u64.min = 0 := by decide
  have h2 : IntKind.u64.max = 18446744073709551615 := by decide
  rw [h1, h2] at h; omega
theorem u8_range {n : Int} (h : IntKind.u8.min ≤ n ∧ n ≤ IntKind.u8.max) : 0 ≤ n ∧ n < 256 := by
  have h1 : IntKind.u8.min = 0 := by decide
  have h2 : IntKind.u8.max = 255 := by decide
  rw [h1, h2] at h; omega
theorem i64_range {n : Int} (h : IntKind.i64.min ≤ n ∧ n ≤ IntKind.i64.max) : -9223372036854775808 ≤ n ∧ n < 9223372036854775808 := by
  have h1 : IntKind.i64.min = -9223372036854775808 := by decide
  have h2 : IntKind.i64.max = 9223372036854775807 := by decide
  rw [h1, h2] at h; omega

theorem getD_lt {α : Type} {l : List α} {i : Nat} {d : α} (h : i < l.length) : l.getD i d = l[i] := by simp [List.getD, h]

/-- two cells of a struct that came in -/
theorem at_two {w : World} {k1 k2 : IntKind} {cs : List Value} {x : Int × Int × Unit} (h : (Ty.cons (.int k1) (.cons (.int k2) .nil)).At w cs x) :
    cs = [.int k1 x.1, .int k2 x.2.1] ∧ (k1.min ≤ x.1 ∧ x.1 ≤ k1.max) ∧ k2.min ≤ x.2.1 ∧ x.2.1 ≤ k2.max := by
  obtain ⟨c1, c2, rfl, _, ⟨rfl, h1⟩, c3, c4, rfl, _, ⟨rfl, h2⟩, rfl⟩ := h
  exact ⟨rfl, h1, h2⟩
theorem at_int_bool {w : World} {k1 : IntKind} {cs : List Value} {x : Int × Bool × Unit} (h : (Ty.cons (.int k1) (.cons .bool .nil)).At w cs x) :
    cs = [.int k1 x.1, .bool x.2.1] ∧ (k1.min ≤ x.1 ∧ x.1 ≤ k1.max) := by
  obtain ⟨c1, c2, rfl, _, ⟨rfl, h1⟩, c3, c4, rfl, _, rfl, rfl⟩ := h
  exact ⟨rfl, h1⟩
end Go.Ev
