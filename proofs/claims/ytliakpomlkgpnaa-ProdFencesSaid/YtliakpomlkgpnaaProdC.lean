/-
  ProdC: lemmas on what Go functions of this seat come to (for whatever arguments, as each says). No condition but those that stand in each lemma.
-/
import Derived.Test.YtliakpomlkgpnaaProdF0
namespace Go.Proofs.Ytliakpomlkgpnaa
open Go Go.Ev
set_option maxRecDepth 100000
set_option linter.unusedVariables false
set_option linter.unusedSimpArgs false

/-- a batch -/
structure BV where
  (base ep pid pe seq : Int)
  (txn con com : Bool)
  q : Option Addr × Nat × Nat
  vs : List (List Int)

def BV.cs (b : BV) : List Value := [.int .i64 b.base, .int .i64 b.ep, .int .u64 b.pid, .int .i64 b.pe, .int .i64 b.seq, .bool b.txn, .bool b.con, .bool b.com, .slice b.q.1 b.q.2.1 b.q.2.2]
def BV.arg (b : BV) : Value := .agg #[.int .i64 b.base, .int .i64 b.ep, .int .u64 b.pid, .int .i64 b.pe, .int .i64 b.seq, .bool b.txn, .bool b.con, .bool b.com, .slice b.q.1 b.q.2.1 b.q.2.2]
def BV.sz (b : BV) : Nat := if b.con then 1 else b.vs.length

/-- its values are there -/
structure BOk (w : World) (b : BV) : Prop where
  ls : ∃ B, Lst .u8 w B b.q b.vs ∧ ∀ y, B y → y < w.heap.size
  n : b.vs.length ≤ 9223372036854775806
  r : (-9223372036854775808 ≤ b.base ∧ b.base < 9223372036854775808) ∧ (0 ≤ b.pid ∧ b.pid < 18446744073709551616)

theorem BOk.fr {w w' : World} {b : BV} (h : BOk w b) (f : Fr [] w w') : BOk w' b := by
  obtain ⟨B, h1, h2⟩ := h.ls
  exact ⟨⟨B, h1.fr f (by simp), fun y hy => by have := h2 y hy; have := f.size; omega⟩, h.n, h.r⟩
theorem BOk.len {w : World} {b : BV} (h : BOk w b) : b.vs.length = b.q.2.1 := by
  obtain ⟨B, h1, h2⟩ := h.ls
  exact h1.len

/-- is a value too long? -/
def longV (vs : List (List Int)) : Bool := decide (∃ p ∈ vs, p.length > 64)
def formB (b : BV) : Bool :=
  (b.con && (decide (b.vs.length > 0) || !b.txn || b.pid == 0 || decide (b.seq > 0))) || (!b.con && (b.vs.length == 0 || b.com)) || (b.txn && b.pid == 0) || (b.pid == 0 && (decide (b.pe > 0) || decide (b.seq > 0)))
/-- what is wrong with a batch -/
def chkB (b : BV) : Int :=
  if b.base < 0 ∨ b.ep < 0 ∨ b.pe < 0 ∨ b.pe > 1000 ∨ b.seq < 0 ∨ b.pid > 1000 then 1 else if formB b then 7 else if b.vs.length > 16 then 2 else if longV b.vs then 2 else 0

/-- the batch spilled to a block of its own -/
theorem spill (w : World) (b : BV) : Blk (w.alloc (.cells #[.int .i64 b.base, .int .i64 b.ep, .int .u64 b.pid, .int .i64 b.pe, .int .i64 b.seq, .bool b.txn, .bool b.con, .bool b.com, .slice b.q.1 b.q.2.1 b.q.2.2] 30)) w.heap.size b.cs 30 ∧
    Fr [] w (w.alloc (.cells #[.int .i64 b.base, .int .i64 b.ep, .int .u64 b.pid, .int .i64 b.pe, .int .i64 b.seq, .bool b.txn, .bool b.con, .bool b.com, .slice b.q.1 b.q.2.1 b.q.2.2] 30)) := by
  have hb := Blk.new w b.cs 30
  exact ⟨hb, Fr.alloc _⟩

structure Cs9 (w : World) (g : Nat) (b : BV) : Prop where
  c0 : w.cell? ⟨g, 0, none⟩ = some (.int .i64 b.base)
  c1 : w.cell? ⟨g, 1, none⟩ = some (.int .i64 b.ep)
  c2 : w.cell? ⟨g, 2, none⟩ = some (.int .u64 b.pid)
  c3 : w.cell? ⟨g, 3, none⟩ = some (.int .i64 b.pe)
  c4 : w.cell? ⟨g, 4, none⟩ = some (.int .i64 b.seq)
  c5 : w.cell? ⟨g, 5, none⟩ = some (.bool b.txn)
  c6 : w.cell? ⟨g, 6, none⟩ = some (.bool b.con)
  c7 : w.cell? ⟨g, 7, none⟩ = some (.bool b.com)
  c8 : w.cell? ⟨g, 8, none⟩ = some (.slice b.q.1 b.q.2.1 b.q.2.2)
theorem cs9 {w : World} {g : Nat} {b : BV} (h : Blk w g b.cs 30) : Cs9 w g b := ⟨h.cell 0, h.cell 1, h.cell 2, h.cell 3, h.cell 4, h.cell 5, h.cell 6, h.cell 7, h.cell 8⟩

section
variable {w : World} {b : BV}

theorem size20 (w : World) (hb : b.vs.length = b.q.2.1) : callF Try.prog 20 #[b.arg] w = some (.int .i64 (b.sz : Int), w.alloc (.cells #[.int .i64 b.base, .int .i64 b.ep, .int .u64 b.pid, .int .i64 b.pe, .int .i64 b.seq, .bool b.txn, .bool b.con, .bool b.com, .slice b.q.1 b.q.2.1 b.q.2.2] 30)) := by
  obtain ⟨s1, f1⟩ := spill w b
  have h := cs9 s1
  refine g20_call (u0c0 := b.base) (u0c1 := b.ep) (u0c2 := b.pid) (u0c3 := b.pe) (u0c4 := b.seq) (u0c5 := b.txn) (u0c6 := b.con) (u0c7 := b.com) (u0c8 := b.q) ?_
  obtain ⟨v, hv⟩ : ∃ v, w.alloc (.cells #[.int .i64 b.base, .int .i64 b.ep, .int .u64 b.pid, .int .i64 b.pe, .int .i64 b.seq, .bool b.txn, .bool b.con, .bool b.com, .slice b.q.1 b.q.2.1 b.q.2.2] 30) = v := ⟨_, rfl⟩
  rw [hv] at h ⊢
  unfold g20
  simp only [hv, addr_add, Nat.zero_add, h.c6, h.c8, obs, asP_pointer, asB_bool, asI_int, asS_string, asSl_slice, asM_map, asTup0, asTup1, asTup2, asTup3, asTup4, asTup5, asTup6, asTup7, asTup8, asTup9, getD0, getD1, getD2, getD3, getD4, getD5, getD6, getD7, getD8, getD9, getD10, getD11, Bool.not_true, Bool.not_false, Bool.false_eq_true, Bool.true_eq_false, ↓reduceIte, decide_true, decide_false, Option.isNone_some, Option.isNone_none, Option.isSome_some, Option.isSome_none, beq_self_eq_true, bne_self_eq_false, Bool.and_true, Bool.true_and, Bool.and_false, Bool.false_and, not_true_eq_false, not_false_eq_true]
  unfold BV.sz
  cases b.con <;> simp [hb]

theorem vals19 {w0 : World} {B : Nat → Prop} (hv : Lst .u8 w0 B b.q b.vs) (hn : b.vs.length ≤ 9223372036854775806) :
    ∃ e t, loopS (g19_l110_b b.q) (0, 0) w0 = some (e, t, w0) ∧ (e = .exit 1 ∧ longV b.vs = false ∨ e = .ret ∧ t.1 = 2 ∧ longV b.vs = true) := by
  have hlen := hv.len
  obtain ⟨e, t, w', g1, rfl, g2⟩ := loopS_rule (b := g19_l110_b b.q) (I := fun k s x => s = (0, (k : Int)) ∧ x = w0 ∧ ∀ p ∈ b.vs.take k, p.length ≤ 64)
    (Q := fun e s x => x = w0 ∧ ((e = .exit 1 ∧ longV b.vs = false) ∨ (e = .ret ∧ s.1 = 2 ∧ longV b.vs = true))) (n := b.vs.length)
    (fun k s x hk ⟨hs, hx, hp⟩ => by
      subst hs hx
      obtain ⟨a, q, i1, c1, r1, _, _⟩ := hv.get hk
      have hql := r1.1
      have hc : (k : Int) < (b.q.2.1 : Int) := by omega
      have hs := wrap_succ (n := k) (by omega)
      by_cases hg : (q.2.1 : Int) > 64
      · refine ⟨.ret, (2, (k : Int)), x, ?_, .inr ⟨by simp, rfl, .inr ⟨rfl, rfl, ?_⟩⟩⟩
        · unfold g19_l110_b
          simp only [hc, i1, c1, hg, obs, asP_pointer, asB_bool, asI_int, asS_string, asSl_slice, asM_map, asTup0, asTup1, asTup2, asTup3, asTup4, asTup5, asTup6, asTup7, asTup8, asTup9, getD0, getD1, getD2, getD3, getD4, getD5, getD6, getD7, getD8, getD9, getD10, getD11, Bool.not_true, Bool.not_false, Bool.false_eq_true, Bool.true_eq_false, ↓reduceIte, decide_true, decide_false, Option.isNone_some, Option.isNone_none, Option.isSome_some, Option.isSome_none, beq_self_eq_true, bne_self_eq_false, Bool.and_true, Bool.true_and, Bool.and_false, Bool.false_and, not_true_eq_false, not_false_eq_true]
        · unfold longV
          simp only [decide_eq_true_eq]
          exact ⟨b.vs[k], List.getElem_mem hk, by omega⟩
      · refine ⟨.normal, (0, ((k + 1 : Nat) : Int)), x, ?_, .inl ⟨rfl, rfl, rfl, ?_⟩⟩
        · unfold g19_l110_b
          simp only [hc, i1, c1, hg, hs, obs, asP_pointer, asB_bool, asI_int, asS_string, asSl_slice, asM_map, asTup0, asTup1, asTup2, asTup3, asTup4, asTup5, asTup6, asTup7, asTup8, asTup9, getD0, getD1, getD2, getD3, getD4, getD5, getD6, getD7, getD8, getD9, getD10, getD11, Bool.not_true, Bool.not_false, Bool.false_eq_true, Bool.true_eq_false, ↓reduceIte, decide_true, decide_false, Option.isNone_some, Option.isNone_none, Option.isSome_some, Option.isSome_none, beq_self_eq_true, bne_self_eq_false, Bool.and_true, Bool.true_and, Bool.and_false, Bool.false_and, not_true_eq_false, not_false_eq_true]
        · intro p hp'
          rw [List.take_succ_eq_append_getElem hk, List.mem_append, List.mem_singleton] at hp'
          rcases hp' with hp' | hp'
          · exact hp p hp'
          · subst hp'; omega)
    (fun s x ⟨hs, hx, hp⟩ => by
      subst hs hx
      rw [List.take_length] at hp
      have hc : ¬ ((b.vs.length : Nat) : Int) < (b.q.2.1 : Int) := by omega
      refine ⟨.exit 1, (0, ((b.vs.length : Nat) : Int)), x, ?_, by simp, rfl, .inl ⟨rfl, ?_⟩⟩
      · unfold g19_l110_b
        simp only [hc, obs, asP_pointer, asB_bool, asI_int, asS_string, asSl_slice, asM_map, asTup0, asTup1, asTup2, asTup3, asTup4, asTup5, asTup6, asTup7, asTup8, asTup9, getD0, getD1, getD2, getD3, getD4, getD5, getD6, getD7, getD8, getD9, getD10, getD11, Bool.not_true, Bool.not_false, Bool.false_eq_true, Bool.true_eq_false, ↓reduceIte, decide_true, decide_false, Option.isNone_some, Option.isNone_none, Option.isSome_some, Option.isSome_none, beq_self_eq_true, bne_self_eq_false, Bool.and_true, Bool.true_and, Bool.and_false, Bool.false_and, not_true_eq_false, not_false_eq_true]
      · unfold longV
        simp only [decide_eq_false_iff_not]
        rintro ⟨p, h1, h2⟩
        have := hp p h1; omega)
    (Nat.zero_le _) (k := 0) (s := (0, 0)) (w := w0) ⟨rfl, rfl, by simp⟩
  exact ⟨e, t, g1, g2⟩

set_option maxHeartbeats 4000000 in
theorem check19 (hb : BOk w b) : ∃ w', callF Try.prog 19 #[b.arg] w = some (.int .i64 (chkB b), w') ∧ Fr [] w w' := by
  obtain ⟨s1, f1⟩ := spill w b
  obtain ⟨c0, c1, c2, c3, c4, c5, c6, c7, c8⟩ := cs9 s1
  have hlen := hb.len
  obtain ⟨B, hv, hB⟩ := (hb.fr f1).ls
  obtain ⟨e, t, g1, g2⟩ := vals19 hv hb.n
  refine ⟨_, g19_call (u0c0 := b.base) (u0c1 := b.ep) (u0c2 := b.pid) (u0c3 := b.pe) (u0c4 := b.seq) (u0c5 := b.txn) (u0c6 := b.con) (u0c7 := b.com) (u0c8 := b.q) ?_, f1⟩
  have j13 : ∀ x, g19_j13 w b.base b.ep b.pid b.pe b.seq b.txn b.con b.com b.q x = some (.int .i64 (if x then 7 else if b.vs.length > 16 then 2 else if longV b.vs then 2 else 0), w.alloc (.cells #[.int .i64 b.base, .int .i64 b.ep, .int .u64 b.pid, .int .i64 b.pe, .int .i64 b.seq, .bool b.txn, .bool b.con, .bool b.com, .slice b.q.1 b.q.2.1 b.q.2.2] 30)) := by
    intro x
    unfold g19_j13
    cases x with
    | true => simp only [obs, asP_pointer, asB_bool, asI_int, asS_string, asSl_slice, asM_map, asTup0, asTup1, asTup2, asTup3, asTup4, asTup5, asTup6, asTup7, asTup8, asTup9, getD0, getD1, getD2, getD3, getD4, getD5, getD6, getD7, getD8, getD9, getD10, getD11, Bool.not_true, Bool.not_false, Bool.false_eq_true, Bool.true_eq_false, ↓reduceIte, decide_true, decide_false, Option.isNone_some, Option.isNone_none, Option.isSome_some, Option.isSome_none, beq_self_eq_true, bne_self_eq_false, Bool.and_true, Bool.true_and, Bool.and_false, Bool.false_and, not_true_eq_false, not_false_eq_true]
    | false =>
      by_cases hg : (b.q.2.1 : Int) > 16
      · have hg' : b.vs.length > 16 := by omega
        simp only [addr_add, Nat.zero_add, c8, hg, hg', obs, asP_pointer, asB_bool, asI_int, asS_string, asSl_slice, asM_map, asTup0, asTup1, asTup2, asTup3, asTup4, asTup5, asTup6, asTup7, asTup8, asTup9, getD0, getD1, getD2, getD3, getD4, getD5, getD6, getD7, getD8, getD9, getD10, getD11, Bool.not_true, Bool.not_false, Bool.false_eq_true, Bool.true_eq_false, ↓reduceIte, decide_true, decide_false, Option.isNone_some, Option.isNone_none, Option.isSome_some, Option.isSome_none, beq_self_eq_true, bne_self_eq_false, Bool.and_true, Bool.true_and, Bool.and_false, Bool.false_and, not_true_eq_false, not_false_eq_true]
      · have hg' : ¬ b.vs.length > 16 := by omega
        rcases g2 with ⟨rfl, h2⟩ | ⟨rfl, h2, h3⟩
        · simp only [addr_add, Nat.zero_add, c8, hg, hg', g19_l110_x1_of g1, g19_l110_x1, h2, obs, asP_pointer, asB_bool, asI_int, asS_string, asSl_slice, asM_map, asTup0, asTup1, asTup2, asTup3, asTup4, asTup5, asTup6, asTup7, asTup8, asTup9, getD0, getD1, getD2, getD3, getD4, getD5, getD6, getD7, getD8, getD9, getD10, getD11, Bool.not_true, Bool.not_false, Bool.false_eq_true, Bool.true_eq_false, ↓reduceIte, decide_true, decide_false, Option.isNone_some, Option.isNone_none, Option.isSome_some, Option.isSome_none, beq_self_eq_true, bne_self_eq_false, Bool.and_true, Bool.true_and, Bool.and_false, Bool.false_and, not_true_eq_false, not_false_eq_true]
        · simp only [addr_add, Nat.zero_add, c8, hg, hg', g19_l110_ret_of g1, g19_l110_ret, h2, h3, obs, asP_pointer, asB_bool, asI_int, asS_string, asSl_slice, asM_map, asTup0, asTup1, asTup2, asTup3, asTup4, asTup5, asTup6, asTup7, asTup8, asTup9, getD0, getD1, getD2, getD3, getD4, getD5, getD6, getD7, getD8, getD9, getD10, getD11, Bool.not_true, Bool.not_false, Bool.false_eq_true, Bool.true_eq_false, ↓reduceIte, decide_true, decide_false, Option.isNone_some, Option.isNone_none, Option.isSome_some, Option.isSome_none, beq_self_eq_true, bne_self_eq_false, Bool.and_true, Bool.true_and, Bool.and_false, Bool.false_and, not_true_eq_false, not_false_eq_true]
  obtain ⟨v, hvv⟩ : ∃ v, w.alloc (.cells #[.int .i64 b.base, .int .i64 b.ep, .int .u64 b.pid, .int .i64 b.pe, .int .i64 b.seq, .bool b.txn, .bool b.con, .bool b.com, .slice b.q.1 b.q.2.1 b.q.2.2] 30) = v := ⟨_, rfl⟩
  rw [hvv] at c0 c1 c2 c3 c4 c5 c6 c7 c8
  simp only [hvv] at j13
  rw [hvv]
  clear s1 f1 hv g1 g2 hB
  unfold g19
  simp only [hvv, addr_add, Nat.zero_add, c0, c1, c2, c3, c4, c5, c6, c7, c8, j13, obs, asP_pointer, asB_bool, asI_int, asS_string, asSl_slice, asM_map, asTup0, asTup1, asTup2, asTup3, asTup4, asTup5, asTup6, asTup7, asTup8, asTup9, getD0, getD1, getD2, getD3, getD4, getD5, getD6, getD7, getD8, getD9, getD10, getD11, Bool.not_true, Bool.not_false, Bool.false_eq_true, Bool.true_eq_false, ↓reduceIte, decide_true, decide_false, Option.isNone_some, Option.isNone_none, Option.isSome_some, Option.isSome_none, beq_self_eq_true, bne_self_eq_false, Bool.and_true, Bool.true_and, Bool.and_false, Bool.false_and, not_true_eq_false, not_false_eq_true]
  have hq0 : ((b.q.2.1 : Int) > 0 ↔ b.vs.length > 0) := by omega
  have hq1 : ((b.q.2.1 : Int) == 0) = (b.vs.length == 0) := by rw [hlen, Bool.eq_iff_iff]; simp only [beq_iff_eq]; omega
  unfold chkB formB
  clear c0 c1 c2 c3 c4 c5 c6 c7 c8 j13
  generalize longV b.vs = lv
  simp only [hq0, hq1, decide_eq_true_eq]
  by_cases h1 : b.base < 0
  · simp [h1]
  by_cases h2 : b.ep < 0
  · simp [h1, h2]
  by_cases h3 : b.pe < 0
  · simp [h1, h2, h3]
  by_cases h4 : b.pe > 1000
  · simp [h1, h2, h3, h4]
  by_cases h5 : b.seq < 0
  · simp [h1, h2, h3, h4, h5]
  by_cases h6 : b.pid > 1000
  · simp [h1, h2, h3, h4, h5, h6]
  simp only [h1, h2, h3, h4, h5, h6, if_false, or_self]
  clear hb hlen hq0 hq1 h1 h2 h3 h4 h5 h6 hvv
  by_cases hp : b.pid = 0 <;> by_cases hs : b.seq > 0 <;> by_cases he : b.pe > 0 <;> by_cases hl : b.vs.length = 0 <;> cases b.con <;> cases b.txn <;> cases b.com <;> simp [hp, hs, he, hl] <;> split <;> rfl
end
end Go.Proofs.Ytliakpomlkgpnaa
