/-
  Lb9: lemmas on what Go functions of this seat come to (for whatever arguments, as each says). No condition but those that stand in each lemma.
-/
import Derived.Test.YtjcenfgmpbeldaaLb8
namespace Go.Ev
open Go
set_option linter.unusedSimpArgs false
set_option linter.unusedVariables false
variable {P : Program} {w : World}

/-! ## a block that is written whole -/
theorem Blk.stL_aux {T : TypeId} {g : Nat} : ∀ {vs ps cs : List Value} {w : World}, vs.length = cs.length → (∀ v ∈ vs, v.oneCell' = true) → Blk w g (ps ++ cs) T →
    ∃ w', Ev.stL w ⟨g, 0, none⟩ vs ps.length = some w' ∧ Blk w' g (ps ++ vs) T ∧ Fr [g] w w'
  | [], ps, [], w, _, _, h => ⟨w, rfl, h, Fr.refl _ _⟩
  | v :: vs, ps, c :: cs, w, hl, hv, h => by
    have h1 : Ev.st1 w ⟨g, ps.length, none⟩ v = some (w.setCell ⟨g, ps.length, none⟩ v) := h.st1 (by simp) (hv v (by simp))
    have h2 := h.set ps.length v
    have e : (ps ++ c :: cs).set ps.length v = (ps ++ [v]) ++ cs := by simp
    rw [e] at h2
    obtain ⟨w', g1, g2, g3⟩ := Blk.stL_aux (T := T) (g := g) (vs := vs) (ps := ps ++ [v]) (cs := cs) (by simpa using hl) (fun x hx => hv x (by simp [hx])) h2
    have f1 : Fr [g] w (w.setCell ⟨g, ps.length, none⟩ v) := Fr.setCell
    refine ⟨w', ?_, by simpa using g2, (f1.app g3).mono (by intro y hy _; simpa using hy)⟩
    rw [stL, addr_add, Nat.zero_add, h1, obs]
    simpa using g1

theorem Blk.stL {T : TypeId} {g : Nat} {vs cs : List Value} (h : Blk w g cs T) (hl : vs.length = cs.length) (hv : ∀ v ∈ vs, v.oneCell' = true) :
    ∃ w', Ev.stL w ⟨g, 0, none⟩ vs 0 = some w' ∧ Blk w' g vs T ∧ Fr [g] w w' := by
  obtain ⟨w', h1, h2, h3⟩ := Blk.stL_aux (ps := []) hl hv h
  exact ⟨w', h1, h2, h3⟩

theorem Blk.ldN {T : TypeId} {g : Nat} {cs : List Value} (h : Blk w g cs T) {n : Nat} (hn : n = cs.length) : Ev.ldN w ⟨g, 0, none⟩ 0 n = some cs := by
  subst hn
  have := ldN_of_cells (w := w) (a := ⟨g, 0, none⟩) (cs := cs) (i := 0) fun j hj => by
    have := h.cell j
    rw [addr_add]
    simp only [Nat.zero_add]
    rw [this]
    simp [hj]
  exact this

/-! ## aggregates -/
@[simp] theorem asAgg2 (a b : Value) : Ev.asAgg 2 (.agg #[a, b]) = some [a, b] := id rfl
@[simp] theorem asAgg3 (a b c : Value) : Ev.asAgg 3 (.agg #[a, b, c]) = some [a, b, c] := id rfl
@[simp] theorem asAgg4 (a b c d : Value) : Ev.asAgg 4 (.agg #[a, b, c, d]) = some [a, b, c, d] := id rfl
@[simp] theorem asAgg5 (a b c d e : Value) : Ev.asAgg 5 (.agg #[a, b, c, d, e]) = some [a, b, c, d, e] := id rfl
@[simp] theorem asAgg6 (a b c d e f : Value) : Ev.asAgg 6 (.agg #[a, b, c, d, e, f]) = some [a, b, c, d, e, f] := id rfl
@[simp] theorem asAgg7 (a b c d e f g : Value) : Ev.asAgg 7 (.agg #[a, b, c, d, e, f, g]) = some [a, b, c, d, e, f, g] := id rfl
@[simp] theorem asAgg8 (a b c d e f g h : Value) : Ev.asAgg 8 (.agg #[a, b, c, d, e, f, g, h]) = some [a, b, c, d, e, f, g, h] := id rfl
@[simp] theorem asAgg9 (a b c d e f g h i : Value) : Ev.asAgg 9 (.agg #[a, b, c, d, e, f, g, h, i]) = some [a, b, c, d, e, f, g, h, i] := id rfl
@[simp] theorem asAgg12 (a b c d e f g h i j k l : Value) : Ev.asAgg 12 (.agg #[a, b, c, d, e, f, g, h, i, j, k, l]) = some [a, b, c, d, e, f, g, h, i, j, k, l] := id rfl
@[simp] theorem getD12 (x0 x1 x2 x3 x4 x5 x6 x7 x8 x9 x10 x11 x12 : Value) (l : List Value) (u : Value) : (x0 :: x1 :: x2 :: x3 :: x4 :: x5 :: x6 :: x7 :: x8 :: x9 :: x10 :: x11 :: x12 :: l).getD 12 u = x12 := id rfl
@[simp] theorem getD13 (x0 x1 x2 x3 x4 x5 x6 x7 x8 x9 x10 x11 x12 x13 : Value) (l : List Value) (u : Value) : (x0 :: x1 :: x2 :: x3 :: x4 :: x5 :: x6 :: x7 :: x8 :: x9 :: x10 :: x11 :: x12 :: x13 :: l).getD 13 u = x13 := id rfl
@[simp] theorem getD14 (x0 x1 x2 x3 x4 x5 x6 x7 x8 x9 x10 x11 x12 x13 x14 : Value) (l : List Value) (u : Value) : (x0 :: x1 :: x2 :: x3 :: x4 :: x5 :: x6 :: x7 :: x8 :: x9 :: x10 :: x11 :: x12 :: x13 :: x14 :: l).getD 14 u = x14 := id rfl
@[simp] theorem getD15 (x0 x1 x2 x3 x4 x5 x6 x7 x8 x9 x10 x11 x12 x13 x14 x15 : Value) (l : List Value) (u : Value) : (x0 :: x1 :: x2 :: x3 :: x4 :: x5 :: x6 :: x7 :: x8 :: x9 :: x10 :: x11 :: x12 :: x13 :: x14 :: x15 :: l).getD 15 u = x15 := id rfl
@[simp] theorem getD16 (x0 x1 x2 x3 x4 x5 x6 x7 x8 x9 x10 x11 x12 x13 x14 x15 x16 : Value) (l : List Value) (u : Value) : (x0 :: x1 :: x2 :: x3 :: x4 :: x5 :: x6 :: x7 :: x8 :: x9 :: x10 :: x11 :: x12 :: x13 :: x14 :: x15 :: x16 :: l).getD 16 u = x16 := id rfl
@[simp] theorem getD17 (x0 x1 x2 x3 x4 x5 x6 x7 x8 x9 x10 x11 x12 x13 x14 x15 x16 x17 : Value) (l : List Value) (u : Value) : (x0 :: x1 :: x2 :: x3 :: x4 :: x5 :: x6 :: x7 :: x8 :: x9 :: x10 :: x11 :: x12 :: x13 :: x14 :: x15 :: x16 :: x17 :: l).getD 17 u = x17 := id rfl
@[simp] theorem getD18 (x0 x1 x2 x3 x4 x5 x6 x7 x8 x9 x10 x11 x12 x13 x14 x15 x16 x17 x18 : Value) (l : List Value) (u : Value) : (x0 :: x1 :: x2 :: x3 :: x4 :: x5 :: x6 :: x7 :: x8 :: x9 :: x10 :: x11 :: x12 :: x13 :: x14 :: x15 :: x16 :: x17 :: x18 :: l).getD 18 u = x18 := id rfl
@[simp] theorem getD19 (x0 x1 x2 x3 x4 x5 x6 x7 x8 x9 x10 x11 x12 x13 x14 x15 x16 x17 x18 x19 : Value) (l : List Value) (u : Value) : (x0 :: x1 :: x2 :: x3 :: x4 :: x5 :: x6 :: x7 :: x8 :: x9 :: x10 :: x11 :: x12 :: x13 :: x14 :: x15 :: x16 :: x17 :: x18 :: x19 :: l).getD 19 u = x19 := id rfl
end Go.Ev
