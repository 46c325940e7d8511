/-
  ProdO: lemmas on what Go functions of this seat come to (for whatever arguments, as each says). No condition but those that stand in each lemma.
-/
import Derived.Test.YtliakpomlkgpnaaProdG
namespace Go.Proofs.Ytliakpomlkgpnaa
open Go Go.Ev
set_option maxRecDepth 100000
set_option linter.unusedVariables false
set_option linter.unusedSimpArgs false
section
variable {w : World} {b : BV}

theorem vals12_53 {w0 x : World} {B : Nat → Prop} (hb : Blk x w0.heap.size b.cs 30) (hv : Lst .u8 x B b.q b.vs) (hn : b.vs.length ≤ 9223372036854775806) :
    ∃ e t, loopS (g12_l53_b w0) (0, 0) x = some (e, t, x) ∧ (e = .exit 2 ∧ longV b.vs = false ∨ e = .ret ∧ t.1 = 2 ∧ longV b.vs = true) := by
  have hlen := hv.len
  have c8 := (cs9 hb).c8
  obtain ⟨e, t, w', g1, rfl, g2⟩ := loopS_rule (b := g12_l53_b w0) (I := fun k s y => s = (0, (k : Int)) ∧ y = x ∧ ∀ p ∈ b.vs.take k, p.length ≤ 64)
    (Q := fun e s y => y = x ∧ ((e = .exit 2 ∧ longV b.vs = false) ∨ (e = .ret ∧ s.1 = 2 ∧ longV b.vs = true))) (n := b.vs.length)
    (fun k s y hk ⟨hs, hx, hp⟩ => by
      subst hs hx
      obtain ⟨a, q, i1, c1, r1, _, _⟩ := hv.get hk
      have hql := r1.1
      have hc : (k : Int) < (b.q.2.1 : Int) := by omega
      have hs := wrap_succ (n := k) (by omega)
      by_cases hg : (q.2.1 : Int) > 64
      · refine ⟨.ret, (2, (k : Int)), y, ?_, .inr ⟨by simp, rfl, .inr ⟨rfl, rfl, ?_⟩⟩⟩
        · unfold g12_l53_b
          simp only [addr_add, Nat.zero_add, c8, hc, i1, c1, hg, obs, asP_pointer, asB_bool, asI_int, asS_string, asSl_slice, asM_map, asTup0, asTup1, asTup2, asTup3, asTup4, asTup5, asTup6, asTup7, asTup8, asTup9, getD0, getD1, getD2, getD3, getD4, getD5, getD6, getD7, getD8, getD9, getD10, getD11, Bool.not_true, Bool.not_false, Bool.false_eq_true, Bool.true_eq_false, ↓reduceIte, decide_true, decide_false, Option.isNone_some, Option.isNone_none, Option.isSome_some, Option.isSome_none, beq_self_eq_true, bne_self_eq_false, Bool.and_true, Bool.true_and, Bool.and_false, Bool.false_and, not_true_eq_false, not_false_eq_true]
        · unfold longV
          simp only [decide_eq_true_eq]
          exact ⟨b.vs[k], List.getElem_mem hk, by omega⟩
      · refine ⟨.normal, (0, ((k + 1 : Nat) : Int)), y, ?_, .inl ⟨rfl, rfl, rfl, ?_⟩⟩
        · unfold g12_l53_b
          simp only [addr_add, Nat.zero_add, c8, hc, i1, c1, hg, hs, obs, asP_pointer, asB_bool, asI_int, asS_string, asSl_slice, asM_map, asTup0, asTup1, asTup2, asTup3, asTup4, asTup5, asTup6, asTup7, asTup8, asTup9, getD0, getD1, getD2, getD3, getD4, getD5, getD6, getD7, getD8, getD9, getD10, getD11, Bool.not_true, Bool.not_false, Bool.false_eq_true, Bool.true_eq_false, ↓reduceIte, decide_true, decide_false, Option.isNone_some, Option.isNone_none, Option.isSome_some, Option.isSome_none, beq_self_eq_true, bne_self_eq_false, Bool.and_true, Bool.true_and, Bool.and_false, Bool.false_and, not_true_eq_false, not_false_eq_true]
        · intro p hp'
          rw [List.take_succ_eq_append_getElem hk, List.mem_append, List.mem_singleton] at hp'
          rcases hp' with hp' | hp'
          · exact hp p hp'
          · subst hp'; omega)
    (fun s y ⟨hs, hx, hp⟩ => by
      subst hs hx
      rw [List.take_length] at hp
      have hc : ¬ ((b.vs.length : Nat) : Int) < (b.q.2.1 : Int) := by omega
      refine ⟨.exit 2, (0, ((b.vs.length : Nat) : Int)), y, ?_, by simp, rfl, .inl ⟨rfl, ?_⟩⟩
      · unfold g12_l53_b
        simp only [addr_add, Nat.zero_add, c8, hc, obs, asP_pointer, asB_bool, asI_int, asS_string, asSl_slice, asM_map, asTup0, asTup1, asTup2, asTup3, asTup4, asTup5, asTup6, asTup7, asTup8, asTup9, getD0, getD1, getD2, getD3, getD4, getD5, getD6, getD7, getD8, getD9, getD10, getD11, Bool.not_true, Bool.not_false, Bool.false_eq_true, Bool.true_eq_false, ↓reduceIte, decide_true, decide_false, Option.isNone_some, Option.isNone_none, Option.isSome_some, Option.isSome_none, beq_self_eq_true, bne_self_eq_false, Bool.and_true, Bool.true_and, Bool.and_false, Bool.false_and, not_true_eq_false, not_false_eq_true]
      · unfold longV
        simp only [decide_eq_false_iff_not]
        rintro ⟨p, h1, h2⟩
        have := hp p h1; omega)
    (Nat.zero_le _) (k := 0) (s := (0, 0)) (w := x) ⟨rfl, rfl, by simp⟩
  exact ⟨e, t, g1, g2⟩

theorem vals12_74 {w0 x : World} {B : Nat → Prop} (hb : Blk x w0.heap.size b.cs 30) (hv : Lst .u8 x B b.q b.vs) (hn : b.vs.length ≤ 9223372036854775806) :
    ∃ e t, loopS (g12_l74_b w0) (0, 0) x = some (e, t, x) ∧ (e = .exit 2 ∧ longV b.vs = false ∨ e = .ret ∧ t.1 = 2 ∧ longV b.vs = true) := by
  have hlen := hv.len
  have c8 := (cs9 hb).c8
  obtain ⟨e, t, w', g1, rfl, g2⟩ := loopS_rule (b := g12_l74_b w0) (I := fun k s y => s = (0, (k : Int)) ∧ y = x ∧ ∀ p ∈ b.vs.take k, p.length ≤ 64)
    (Q := fun e s y => y = x ∧ ((e = .exit 2 ∧ longV b.vs = false) ∨ (e = .ret ∧ s.1 = 2 ∧ longV b.vs = true))) (n := b.vs.length)
    (fun k s y hk ⟨hs, hx, hp⟩ => by
      subst hs hx
      obtain ⟨a, q, i1, c1, r1, _, _⟩ := hv.get hk
      have hql := r1.1
      have hc : (k : Int) < (b.q.2.1 : Int) := by omega
      have hs := wrap_succ (n := k) (by omega)
      by_cases hg : (q.2.1 : Int) > 64
      · refine ⟨.ret, (2, (k : Int)), y, ?_, .inr ⟨by simp, rfl, .inr ⟨rfl, rfl, ?_⟩⟩⟩
        · unfold g12_l74_b
          simp only [addr_add, Nat.zero_add, c8, hc, i1, c1, hg, obs, asP_pointer, asB_bool, asI_int, asS_string, asSl_slice, asM_map, asTup0, asTup1, asTup2, asTup3, asTup4, asTup5, asTup6, asTup7, asTup8, asTup9, getD0, getD1, getD2, getD3, getD4, getD5, getD6, getD7, getD8, getD9, getD10, getD11, Bool.not_true, Bool.not_false, Bool.false_eq_true, Bool.true_eq_false, ↓reduceIte, decide_true, decide_false, Option.isNone_some, Option.isNone_none, Option.isSome_some, Option.isSome_none, beq_self_eq_true, bne_self_eq_false, Bool.and_true, Bool.true_and, Bool.and_false, Bool.false_and, not_true_eq_false, not_false_eq_true]
        · unfold longV
          simp only [decide_eq_true_eq]
          exact ⟨b.vs[k], List.getElem_mem hk, by omega⟩
      · refine ⟨.normal, (0, ((k + 1 : Nat) : Int)), y, ?_, .inl ⟨rfl, rfl, rfl, ?_⟩⟩
        · unfold g12_l74_b
          simp only [addr_add, Nat.zero_add, c8, hc, i1, c1, hg, hs, obs, asP_pointer, asB_bool, asI_int, asS_string, asSl_slice, asM_map, asTup0, asTup1, asTup2, asTup3, asTup4, asTup5, asTup6, asTup7, asTup8, asTup9, getD0, getD1, getD2, getD3, getD4, getD5, getD6, getD7, getD8, getD9, getD10, getD11, Bool.not_true, Bool.not_false, Bool.false_eq_true, Bool.true_eq_false, ↓reduceIte, decide_true, decide_false, Option.isNone_some, Option.isNone_none, Option.isSome_some, Option.isSome_none, beq_self_eq_true, bne_self_eq_false, Bool.and_true, Bool.true_and, Bool.and_false, Bool.false_and, not_true_eq_false, not_false_eq_true]
        · intro p hp'
          rw [List.take_succ_eq_append_getElem hk, List.mem_append, List.mem_singleton] at hp'
          rcases hp' with hp' | hp'
          · exact hp p hp'
          · subst hp'; omega)
    (fun s y ⟨hs, hx, hp⟩ => by
      subst hs hx
      rw [List.take_length] at hp
      have hc : ¬ ((b.vs.length : Nat) : Int) < (b.q.2.1 : Int) := by omega
      refine ⟨.exit 2, (0, ((b.vs.length : Nat) : Int)), y, ?_, by simp, rfl, .inl ⟨rfl, ?_⟩⟩
      · unfold g12_l74_b
        simp only [addr_add, Nat.zero_add, c8, hc, obs, asP_pointer, asB_bool, asI_int, asS_string, asSl_slice, asM_map, asTup0, asTup1, asTup2, asTup3, asTup4, asTup5, asTup6, asTup7, asTup8, asTup9, getD0, getD1, getD2, getD3, getD4, getD5, getD6, getD7, getD8, getD9, getD10, getD11, Bool.not_true, Bool.not_false, Bool.false_eq_true, Bool.true_eq_false, ↓reduceIte, decide_true, decide_false, Option.isNone_some, Option.isNone_none, Option.isSome_some, Option.isSome_none, beq_self_eq_true, bne_self_eq_false, Bool.and_true, Bool.true_and, Bool.and_false, Bool.false_and, not_true_eq_false, not_false_eq_true]
      · unfold longV
        simp only [decide_eq_false_iff_not]
        rintro ⟨p, h1, h2⟩
        have := hp p h1; omega)
    (Nat.zero_le _) (k := 0) (s := (0, 0)) (w := x) ⟨rfl, rfl, by simp⟩
  exact ⟨e, t, g1, g2⟩


theorem doc_j25 {w0 x : World} {B : Nat → Prop} (hb : Blk x w0.heap.size b.cs 30) (hv : Lst .u8 x B b.q b.vs) (hn : b.vs.length ≤ 9223372036854775806) (n : Int) :
    g12_j25 x w0 (0, n) = some (.int .i64 (if b.pid = 0 ∧ (b.txn = true ∨ b.pe > 0 ∨ b.seq > 0) then 7 else if b.vs.length > 16 then 2 else if longV b.vs then 2 else 0), x) := by
  have hlen := hv.len
  obtain ⟨c0, c1, c2, c3, c4, c5, c6, c7, c8⟩ := cs9 hb
  obtain ⟨e, t, g1, g2⟩ := vals12_53 hb hv hn
  obtain ⟨e', t', g1', g2'⟩ := vals12_74 hb hv hn
  unfold g12_j25
  have hq : ((b.q.2.1 : Int) > 16) ↔ b.vs.length > 16 := by omega
  have l53 : g12_l53 w0 (0, 0) x = some (.int .i64 (if longV b.vs then 2 else 0), x) := by
    rcases g2 with ⟨rfl, h2⟩ | ⟨rfl, h2, h3⟩
    · rw [g12_l53_x2_of g1]; unfold g12_l53_x2; rw [h2]; rfl
    · rw [g12_l53_ret_of g1]; unfold g12_l53_ret; rw [h2, h3]; rfl
  have l74 : g12_l74 w0 (0, 0) x = some (.int .i64 (if longV b.vs then 2 else 0), x) := by
    rcases g2' with ⟨rfl, h2⟩ | ⟨rfl, h2, h3⟩
    · rw [g12_l74_x2_of g1']; unfold g12_l74_x2; rw [h2]; rfl
    · rw [g12_l74_ret_of g1']; unfold g12_l74_ret; rw [h2, h3]; rfl
  simp only [addr_add, Nat.zero_add, c2, c5, c3, c4, c8, l53, l74, obs, asP_pointer, asB_bool, asI_int, asS_string, asSl_slice, asM_map, asTup0, asTup1, asTup2, asTup3, asTup4, asTup5, asTup6, asTup7, asTup8, asTup9, getD0, getD1, getD2, getD3, getD4, getD5, getD6, getD7, getD8, getD9, getD10, getD11, Bool.not_true, Bool.not_false, Bool.false_eq_true, Bool.true_eq_false, ↓reduceIte, decide_true, decide_false, Option.isNone_some, Option.isNone_none, Option.isSome_some, Option.isSome_none, beq_self_eq_true, bne_self_eq_false, Bool.and_true, Bool.true_and, Bool.and_false, Bool.false_and, not_true_eq_false, not_false_eq_true]
  simp only [decide_eq_true_eq, hq, beq_iff_eq]
  by_cases h1 : b.pid = 0 <;> by_cases h2 : b.txn = true <;> by_cases h3 : b.pe > 0 <;> by_cases h4 : b.seq > 0 <;> by_cases h5 : b.vs.length > 16 <;> simp [h1, h2, h3, h4, h5]

theorem doc_x0 {w0 x : World} {B : Nat → Prop} (hb : Blk x w0.heap.size b.cs 30) (hv : Lst .u8 x B b.q b.vs) (hn : b.vs.length ≤ 9223372036854775806) (n : Int)
    (p0 : ¬ b.base < 0) (p1 : ¬ b.ep < 0) (p2 : ¬ b.pe < 0) (p3 : ¬ b.seq < 0) : g12_l10_x0 w0 (0, n) x = some (.int .i64 (chkB b), x) := by
  have hlen := hv.len
  obtain ⟨c0, c1, c2, c3, c4, c5, c6, c7, c8⟩ := cs9 hb
  have j := doc_j25 hb hv hn n
  have hq : ((b.q.2.1 : Int) > 0) ↔ b.vs.length > 0 := by omega
  have hq1 : ((b.q.2.1 : Int) == 0) = (b.vs.length == 0) := by rw [hlen, Bool.eq_iff_iff]; simp only [beq_iff_eq]; omega
  have hsq : (b.seq != 0) = decide (b.seq > 0) := by
    by_cases h : b.seq > 0
    · have : ¬ b.seq = 0 := by omega
      simp [h, this]
    · have : b.seq = 0 := by omega
      simp [this]
  unfold g12_l10_x0
  simp only [addr_add, Nat.zero_add, c2, c3, c4, c5, c6, c7, c8, j, obs, asP_pointer, asB_bool, asI_int, asS_string, asSl_slice, asM_map, asTup0, asTup1, asTup2, asTup3, asTup4, asTup5, asTup6, asTup7, asTup8, asTup9, getD0, getD1, getD2, getD3, getD4, getD5, getD6, getD7, getD8, getD9, getD10, getD11, Bool.not_true, Bool.not_false, Bool.false_eq_true, Bool.true_eq_false, ↓reduceIte, decide_true, decide_false, Option.isNone_some, Option.isNone_none, Option.isSome_some, Option.isSome_none, beq_self_eq_true, bne_self_eq_false, Bool.and_true, Bool.true_and, Bool.and_false, Bool.false_and, not_true_eq_false, not_false_eq_true]
  rw [hsq, hq1]
  simp only [decide_eq_true_eq, hq]
  unfold chkB formB
  simp only [p0, p1, p2, p3, false_or]
  by_cases h4 : b.pe > 1000
  · simp [h4]
  by_cases h6 : b.pid > 1000
  · simp [h4, h6]
  simp only [h4, h6, if_false, or_self]
  generalize longV b.vs = lv
  clear j hq hq1 hsq c0 c1 c2 c3 c4 c5 c6 c7 c8 hlen hv hb
  by_cases hp : b.pid = 0 <;> by_cases hs : b.seq > 0 <;> by_cases he : b.pe > 0 <;> by_cases hl : b.vs.length = 0 <;> cases b.con <;> cases b.txn <;> cases b.com <;> simp [hp, hs, he, hl] <;> split <;> rfl

theorem doc_l10 {w0 x : World} (hA : Blk x (w0.alloc (.cells #[.int .i64 b.base, .int .i64 b.ep, .int .u64 b.pid, .int .i64 b.pe, .int .i64 b.seq, .bool b.txn, .bool b.con, .bool b.com, .slice b.q.1 b.q.2.1 b.q.2.2] 30)).heap.size [.int .i64 b.base, .int .i64 b.ep, .int .i64 b.pe, .int .i64 b.seq] 3) :
    ∃ e t, loopS (g12_l10_b w0 b.base b.ep b.pid b.pe b.seq b.txn b.con b.com b.q) (0, 0) x = some (e, t, x) ∧
      (e = .exit 0 ∧ t = (0, 4) ∧ ¬ b.base < 0 ∧ ¬ b.ep < 0 ∧ ¬ b.pe < 0 ∧ ¬ b.seq < 0 ∨ e = .ret ∧ t.1 = 1 ∧ (b.base < 0 ∨ b.ep < 0 ∨ b.pe < 0 ∨ b.seq < 0)) := by
  obtain ⟨g, hg⟩ : ∃ g, (w0.alloc (.cells #[.int .i64 b.base, .int .i64 b.ep, .int .u64 b.pid, .int .i64 b.pe, .int .i64 b.seq, .bool b.txn, .bool b.con, .bool b.com, .slice b.q.1 b.q.2.1 b.q.2.2] 30)).heap.size = g := ⟨_, rfl⟩
  rw [hg] at hA
  obtain ⟨ns, hns⟩ : ∃ ns : List Int, ns = [b.base, b.ep, b.pe, b.seq] := ⟨_, rfl⟩
  have hcell : ∀ k (hk : k < 4), x.cell? ⟨g, k, none⟩ = some (.int .i64 (ns[k]'(by rw [hns]; exact hk))) := by
    intro k hk
    rw [hA.cell k]
    subst hns
    match k, hk with
    | 0, _ => rfl
    | 1, _ => rfl
    | 2, _ => rfl
    | 3, _ => rfl
  have hnl : ns.length = 4 := by rw [hns]; rfl
  obtain ⟨e, t, w', g1, rfl, g2⟩ := loopS_rule (b := g12_l10_b w0 b.base b.ep b.pid b.pe b.seq b.txn b.con b.com b.q) (I := fun k s y => s = (0, (k : Int)) ∧ y = x ∧ ∀ n ∈ ns.take k, ¬ n < 0)
    (Q := fun e s y => y = x ∧ ((e = .exit 0 ∧ s = (0, 4) ∧ ∀ n ∈ ns, ¬ n < 0) ∨ (e = .ret ∧ s.1 = 1 ∧ ∃ n ∈ ns, n < 0))) (n := 4)
    (fun k s y hk ⟨hs, hx, hp⟩ => by
      subst hs hx
      have hk' : k < ns.length := by omega
      have c1 := hcell k hk
      have i1 : idxA (some ⟨g, 0, none⟩) 4 1 (k : Int) = some ⟨g, k, none⟩ := by
        unfold idxA
        rw [if_pos (by omega)]
        simp [addr_add]
      have hc : (k : Int) < 4 := by omega
      have hs := wrap_succ (n := k) (by omega)
      by_cases hneg : ns[k] < 0
      · refine ⟨.ret, (1, (k : Int)), y, ?_, .inr ⟨by simp, rfl, .inr ⟨rfl, rfl, ns[k], List.getElem_mem hk', hneg⟩⟩⟩
        unfold g12_l10_b
        simp only [hg, hc, i1, c1, hneg, obs, asP_pointer, asB_bool, asI_int, asS_string, asSl_slice, asM_map, asTup0, asTup1, asTup2, asTup3, asTup4, asTup5, asTup6, asTup7, asTup8, asTup9, getD0, getD1, getD2, getD3, getD4, getD5, getD6, getD7, getD8, getD9, getD10, getD11, Bool.not_true, Bool.not_false, Bool.false_eq_true, Bool.true_eq_false, ↓reduceIte, decide_true, decide_false, Option.isNone_some, Option.isNone_none, Option.isSome_some, Option.isSome_none, beq_self_eq_true, bne_self_eq_false, Bool.and_true, Bool.true_and, Bool.and_false, Bool.false_and, not_true_eq_false, not_false_eq_true]
      · refine ⟨.normal, (0, ((k + 1 : Nat) : Int)), y, ?_, .inl ⟨rfl, rfl, rfl, ?_⟩⟩
        · unfold g12_l10_b
          simp only [hg, hc, i1, c1, hneg, hs, obs, asP_pointer, asB_bool, asI_int, asS_string, asSl_slice, asM_map, asTup0, asTup1, asTup2, asTup3, asTup4, asTup5, asTup6, asTup7, asTup8, asTup9, getD0, getD1, getD2, getD3, getD4, getD5, getD6, getD7, getD8, getD9, getD10, getD11, Bool.not_true, Bool.not_false, Bool.false_eq_true, Bool.true_eq_false, ↓reduceIte, decide_true, decide_false, Option.isNone_some, Option.isNone_none, Option.isSome_some, Option.isSome_none, beq_self_eq_true, bne_self_eq_false, Bool.and_true, Bool.true_and, Bool.and_false, Bool.false_and, not_true_eq_false, not_false_eq_true]
        · intro n hn
          rw [List.take_succ_eq_append_getElem hk', List.mem_append, List.mem_singleton] at hn
          rcases hn with hn | hn
          · exact hp n hn
          · subst hn; exact hneg)
    (fun s y ⟨hs, hx, hp⟩ => by
      subst hs hx
      have hc : ¬ ((4 : Nat) : Int) < 4 := by omega
      refine ⟨.exit 0, (0, ((4 : Nat) : Int)), y, ?_, by simp, rfl, .inl ⟨rfl, rfl, ?_⟩⟩
      · unfold g12_l10_b
        simp only [hc, obs, asP_pointer, asB_bool, asI_int, asS_string, asSl_slice, asM_map, asTup0, asTup1, asTup2, asTup3, asTup4, asTup5, asTup6, asTup7, asTup8, asTup9, getD0, getD1, getD2, getD3, getD4, getD5, getD6, getD7, getD8, getD9, getD10, getD11, Bool.not_true, Bool.not_false, Bool.false_eq_true, Bool.true_eq_false, ↓reduceIte, decide_true, decide_false, Option.isNone_some, Option.isNone_none, Option.isSome_some, Option.isSome_none, beq_self_eq_true, bne_self_eq_false, Bool.and_true, Bool.true_and, Bool.and_false, Bool.false_and, not_true_eq_false, not_false_eq_true]
      · rw [List.take_of_length_le (by omega)] at hp; exact hp)
    (Nat.zero_le _) (k := 0) (s := (0, 0)) (w := x) ⟨rfl, rfl, by simp⟩
  refine ⟨e, t, g1, ?_⟩
  subst hns
  rcases g2 with ⟨rfl, h2, h3⟩ | ⟨rfl, h2, h3⟩
  · left
    exact ⟨rfl, h2, h3 _ (by simp), h3 _ (by simp), h3 _ (by simp), h3 _ (by simp)⟩
  · right
    refine ⟨rfl, h2, ?_⟩
    obtain ⟨n, hn, hlt⟩ := h3
    simp at hn
    rcases hn with rfl | rfl | rfl | rfl
    · exact .inl hlt
    · exact .inr (.inl hlt)
    · exact .inr (.inr (.inl hlt))
    · exact .inr (.inr (.inr hlt))

theorem doccheck12 (hb : BOk w b) : ∃ w', callF Try.prog 12 #[b.arg] w = some (.int .i64 (chkB b), w') ∧ Fr [] w w' := by
  obtain ⟨s1, f1⟩ := spill w b
  have hbv := hb.fr f1
  have bA := Blk.new (w.alloc (.cells #[.int .i64 b.base, .int .i64 b.ep, .int .u64 b.pid, .int .i64 b.pe, .int .i64 b.seq, .bool b.txn, .bool b.con, .bool b.com, .slice b.q.1 b.q.2.1 b.q.2.2] 30)) [.int .i64 b.base, .int .i64 b.ep, .int .i64 b.pe, .int .i64 b.seq] 3
  have fA : Fr [] (w.alloc (.cells #[.int .i64 b.base, .int .i64 b.ep, .int .u64 b.pid, .int .i64 b.pe, .int .i64 b.seq, .bool b.txn, .bool b.con, .bool b.com, .slice b.q.1 b.q.2.1 b.q.2.2] 30)) ((w.alloc (.cells #[.int .i64 b.base, .int .i64 b.ep, .int .u64 b.pid, .int .i64 b.pe, .int .i64 b.seq, .bool b.txn, .bool b.con, .bool b.com, .slice b.q.1 b.q.2.1 b.q.2.2] 30)).alloc (.cells #[.int .i64 b.base, .int .i64 b.ep, .int .i64 b.pe, .int .i64 b.seq] 3)) := Fr.alloc _
  change Blk ((w.alloc (.cells #[.int .i64 b.base, .int .i64 b.ep, .int .u64 b.pid, .int .i64 b.pe, .int .i64 b.seq, .bool b.txn, .bool b.con, .bool b.com, .slice b.q.1 b.q.2.1 b.q.2.2] 30)).alloc (.cells #[.int .i64 b.base, .int .i64 b.ep, .int .i64 b.pe, .int .i64 b.seq] 3)) _ _ _ at bA
  obtain ⟨e, t, g1, g2⟩ := doc_l10 (w0 := w) bA
  have s2 := s1.fr fA (by simp)
  obtain ⟨B, hv, hB⟩ := (hbv.fr fA).ls
  obtain ⟨c0, c1, c2, c3, c4, c5, c6, c7, c8⟩ := cs9 s1
  obtain ⟨x, hx⟩ : ∃ x, (w.alloc (.cells #[.int .i64 b.base, .int .i64 b.ep, .int .u64 b.pid, .int .i64 b.pe, .int .i64 b.seq, .bool b.txn, .bool b.con, .bool b.com, .slice b.q.1 b.q.2.1 b.q.2.2] 30)).alloc (.cells #[.int .i64 b.base, .int .i64 b.ep, .int .i64 b.pe, .int .i64 b.seq] 3) = x := ⟨_, rfl⟩
  rw [hx] at g1 s2 hv fA
  refine ⟨x, g12_call (u0c0 := b.base) (u0c1 := b.ep) (u0c2 := b.pid) (u0c3 := b.pe) (u0c4 := b.seq) (u0c5 := b.txn) (u0c6 := b.con) (u0c7 := b.com) (u0c8 := b.q) ?_, (Fr.mono (Fr.app f1 fA) (by have z0_ := Fr.size f1; have z1_ := Fr.size fA; intro y_ hy_ hl_; grind [blkOf]))⟩
  have key : g12_l10 w b.base b.ep b.pid b.pe b.seq b.txn b.con b.com b.q (0, 0) x = some (.int .i64 (chkB b), x) := by
    rcases g2 with ⟨rfl, rfl, h2⟩ | ⟨rfl, h2, h3⟩
    · rw [g12_l10_x0_of g1]
      exact doc_x0 s2 hv hb.n 4 h2.1 h2.2.1 h2.2.2.1 h2.2.2.2
    · rw [g12_l10_ret_of g1]
      unfold g12_l10_ret
      rw [h2]
      have : chkB b = 1 := by unfold chkB; rw [if_pos (by rcases h3 with h | h | h | h <;> simp [h])]
      rw [this]
  unfold g12
  simp only [addr_add, Nat.zero_add, c0, c1, c3, c4, hx, key, obs, asP_pointer, asB_bool, asI_int, asS_string, asSl_slice, asM_map, asTup0, asTup1, asTup2, asTup3, asTup4, asTup5, asTup6, asTup7, asTup8, asTup9, getD0, getD1, getD2, getD3, getD4, getD5, getD6, getD7, getD8, getD9, getD10, getD11, Bool.not_true, Bool.not_false, Bool.false_eq_true, Bool.true_eq_false, ↓reduceIte, decide_true, decide_false, Option.isNone_some, Option.isNone_none, Option.isSome_some, Option.isSome_none, beq_self_eq_true, bne_self_eq_false, Bool.and_true, Bool.true_and, Bool.and_false, Bool.false_and, not_true_eq_false, not_false_eq_true]
end
end Go.Proofs.Ytliakpomlkgpnaa
