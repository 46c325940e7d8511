/-
  TxnP: lemmas on what Go functions of this seat come to (for whatever arguments, as each says). No condition but those that stand in each lemma.
-/
import Derived.Test.YtlcojbodcbjkaaaTxnO
namespace Go.Proofs.Ytlcojbodcbjkaaa
open Go Go.Ev
set_option maxRecDepth 100000
set_option linter.unusedVariables false
set_option linter.unusedSimpArgs false

abbrev RT : Ty := .cons (.int .i64) (.cons (.int .i64) (.cons (.int .i64) (.cons (.int .u64) (.cons (.int .i64) (.cons (.slice (.int .i64)) (.cons .bool .nil))))))
abbrev OT : Ty := .cons (.int .i64) (.cons (.int .i64) (.cons (.int .i64) (.cons (.int .i64) (.cons (.int .i64) (.cons (.int .u64) (.cons .bool (.cons .bool (.cons RT .nil))))))))

def toO (x : OT.Val) : OV := ⟨x.1, x.2.1, x.2.2.1, x.2.2.2.1, x.2.2.2.2.1, x.2.2.2.2.2.1, x.2.2.2.2.2.2.1, x.2.2.2.2.2.2.2.1, x.2.2.2.2.2.2.2.2.1.1, x.2.2.2.2.2.2.2.2.1.2.1, x.2.2.2.2.2.2.2.2.1.2.2.1, x.2.2.2.2.2.2.2.2.1.2.2.2.1, x.2.2.2.2.2.2.2.2.1.2.2.2.2.1, x.2.2.2.2.2.2.2.2.1.2.2.2.2.2.1.1, x.2.2.2.2.2.2.2.2.1.2.2.2.2.2.2.1⟩

theorem toO_at {w : World} {cs : List Value} {x : OT.Val} (h : OT.At w cs x) : cs = (toO x).cs := by
  obtain ⟨c1, d1, rfl, _, ⟨rfl, _⟩, c2, d2, rfl, _, ⟨rfl, _⟩, c3, d3, rfl, _, ⟨rfl, _⟩, c4, d4, rfl, _, ⟨rfl, _⟩, c5, d5, rfl, _, ⟨rfl, _⟩, c6, d6, rfl, _, ⟨rfl, _⟩, c7, d7, rfl, _, rfl, c8, d8, rfl, _, rfl, c9, d9, rfl, _, ⟨e1, g1, rfl, _, ⟨rfl, _⟩, e2, g2, rfl, _, ⟨rfl, _⟩, e3, g3, rfl, _, ⟨rfl, _⟩, e4, g4, rfl, _, ⟨rfl, _⟩, e5, g5, rfl, _, ⟨rfl, _⟩, e6, g6, rfl, _, ⟨rfl, _⟩, e7, g7, rfl, _, rfl, rfl⟩, rfl⟩ := h
  rfl

theorem op_at {w : World} {x0 : (Ty.slice OT).Val} (h0 : (Ty.slice OT).At w [.slice x0.1.1 x0.1.2.1 x0.1.2.2] x0) {k : Nat} (hk : k < x0.2.length) :
    ∃ a, idxA x0.1.1 x0.1.2.1 15 (k : Int) = some a ∧ ldN w a 0 15 = some (toO x0.2[k]).cs := by
  obtain ⟨a, cs, i1, g1, g2, g3⟩ := slice_get h0 hk
  have ec := toO_at g3
  have esz : Ty.size OT = 15 := rfl
  rw [esz] at i1
  exact ⟨a, i1, by rw [← ec]; exact g2.ldN (n := 15) (by rw [ec]; rfl)⟩

theorem ovcs_oc (o : OV) : ∀ u ∈ o.cs, u.oneCell' = true := by
  intro u hu
  simp only [OV.cs, List.mem_cons, List.not_mem_nil, or_false] at hu
  rcases hu with rfl | rfl | rfl | rfl | rfl | rfl | rfl | rfl | rfl | rfl | rfl | rfl | rfl | rfl | rfl <;> rfl

/-- a copy of an Op in a block of its own -/
theorem newO (x : World) (o : OV) : ∃ x', stL (x.alloc (.cells #[.int .i64 0, .int .i64 0, .int .i64 0, .int .i64 0, .int .i64 0, .int .u64 0, .bool false, .bool false, .int .i64 0, .int .i64 0, .int .i64 0, .int .u64 0, .int .i64 0, .slice none 0 0, .bool false] 32)) ⟨x.heap.size, 0, none⟩ [.int .i64 o.k, .int .i64 o.n, .int .i64 o.inc, .int .i64 o.ep, .int .i64 o.part, .int .u64 o.pid, .bool o.com, .bool o.doit, .int .i64 o.rk, .int .i64 o.rtx, .int .i64 o.rinc, .int .u64 o.rpid, .int .i64 o.rep, .slice o.rq.1 o.rq.2.1 o.rq.2.2, .bool o.rcom] 0 = some x' ∧
    Blk x' x.heap.size o.cs 32 ∧ Fr [] x x' ∧ ldN x' ⟨x.heap.size, 0, none⟩ 0 15 = some [.int .i64 o.k, .int .i64 o.n, .int .i64 o.inc, .int .i64 o.ep, .int .i64 o.part, .int .u64 o.pid, .bool o.com, .bool o.doit, .int .i64 o.rk, .int .i64 o.rtx, .int .i64 o.rinc, .int .u64 o.rpid, .int .i64 o.rep, .slice o.rq.1 o.rq.2.1 o.rq.2.2, .bool o.rcom] := by
  have b : Blk (x.alloc (.cells #[.int .i64 0, .int .i64 0, .int .i64 0, .int .i64 0, .int .i64 0, .int .u64 0, .bool false, .bool false, .int .i64 0, .int .i64 0, .int .i64 0, .int .u64 0, .int .i64 0, .slice none 0 0, .bool false] 32)) x.heap.size (OV.cs ⟨0, 0, 0, 0, 0, 0, false, false, 0, 0, 0, 0, 0, (none, 0, 0), false⟩) 32 := Blk.new x (OV.cs ⟨0, 0, 0, 0, 0, 0, false, false, 0, 0, 0, 0, 0, (none, 0, 0), false⟩) 32
  have f : Fr [] x (x.alloc (.cells #[.int .i64 0, .int .i64 0, .int .i64 0, .int .i64 0, .int .i64 0, .int .u64 0, .bool false, .bool false, .int .i64 0, .int .i64 0, .int .i64 0, .int .u64 0, .int .i64 0, .slice none 0 0, .bool false] 32)) := Fr.alloc _
  obtain ⟨x', h1, h2, h3⟩ := b.stL (vs := o.cs) rfl (ovcs_oc o)
  exact ⟨x', h1, h2, (f.app h3).mono (by intro y hy hl; simp at hy; omega), h2.ldN (n := 15) rfl⟩

/-- a name's state in a block of its own -/
theorem newT2 (x : World) (v : TV) (q : Option Addr × Nat × Nat) : ∃ x', stL (x.alloc (.cells #[.int .i64 0, .int .i64 0, .int .u64 0, .int .i64 0, .slice none 0 0, .int .i64 0, .int .u64 0, .bool false] 46)) ⟨x.heap.size, 0, none⟩ [.int .i64 v.st, .int .i64 v.inc, .int .u64 v.pid, .int .i64 v.ep, .slice q.1 q.2.1 q.2.2, .int .i64 v.last, .int .u64 v.lpid, .bool v.com] 0 = some x' ∧
    Blk x' x.heap.size (v.cs q) 46 ∧ Fr [] x x' := by
  obtain ⟨b, f⟩ := zero46 x
  obtain ⟨x', h1, h2, h3⟩ := b.stL (vs := v.cs q) rfl (tvcs_oc v q)
  exact ⟨x', h1, h2, (f.app h3).mono (by intro y hy hl; simp at hy; omega)⟩

/-- the state of a life -/
structure LS (W x : World) (tb : Nat) (D : Nat → Prop) (A : List (Int × TV)) (next m : Int) : Prop where
  tab : Tb x D tb A
  li : LI (tvOf A 0) next m
  fr : Fr [] W x
  hD : ∀ y, D y → W.heap.size ≤ y

theorem LS.len {W x : World} {tb : Nat} {D : Nat → Prop} {A : List (Int × TV)} {next m : Int} (h : LS W x tb D A next m) : ∀ v, kget A 0 = some v → v.parts.length ≤ 6 := by
  intro v hv
  have : tvOf A 0 = v := by unfold tvOf; rw [hv]; rfl
  rw [← this]; exact h.li.len
theorem LS.lenM {W x : World} {tb : Nat} {D : Nat → Prop} {A : List (Int × TV)} {next m : Int} (h : LS W x tb D A next m) : ∀ v, kget A 0 = some v → v.parts.length ≤ 1000000000 := fun v hv => by have := h.len v hv; omega

theorem ls_chg {W x x' : World} {tb : Nat} {D D' : Nat → Prop} {A A' : List (Int × TV)} {next m n' m' : Int} (h : LS W x tb D A next m) (ht : Tb x' D' tb A') (c : Chg D x x' D') (hl : LI (tvOf A' 0) n' m') : LS W x' tb D' A' n' m' := by
  obtain ⟨S, f, hS⟩ := c.fr
  have n := c.new
  have z := h.fr.size
  refine ⟨ht, hl, (h.fr.app f).mono (by intro y hy hl; simp at hy; have := h.hD y (hS y hy); omega), fun y hy => ?_⟩
  rcases n y hy with hh | hh
  · exact h.hD y hh
  · omega
theorem LS.step {W x x' : World} {tb : Nat} {D : Nat → Prop} {A : List (Int × TV)} {next m : Int} (h : LS W x tb D A next m) (f : Fr [] x x') : LS W x' tb D A next m :=
  ⟨h.tab.fr f (by simp), h.li, by have := h.fr; exact (Fr.mono (Fr.app this f) (by have z0_ := Fr.size this; have z1_ := Fr.size f; intro y_ hy_ hl_; grind [blkOf])), h.hD⟩

/-- one round of a life -/
theorem life_do {W x : World} {tb : Nat} {D : Nat → Prop} {A : List (Int × TV)} {next m : Int} (h : LS W x tb D A next m) (o : OV) (hn : 1 ≤ next) (hm : m < 9223372036854775807) :
    ∃ x' D' A', callF Try.prog 24 #[.pointer (some ⟨tb, 0, none⟩), o.arg, .int .u64 next] x = some (.bool (lifeP (tvOf A 0) o next).2, x') ∧ LS W x' tb D' A' (if (lifeP (tvOf A 0) o next).2 then next + 1 else next) (m + 1) ∧ LR (tvOf A 0) (tvOf A' 0) ∧ (∃ S, Fr S x x' ∧ ∀ y ∈ S, D y) ∧ ∀ y, D' y → D y ∨ x.heap.size ≤ y := by
  obtain ⟨x', D', e, t, c⟩ := life24 h.tab o next h.len
  obtain ⟨s1, s2⟩ := life_step h.li hn hm o
  have htv : tvOf (if (lifeP (tvOf A 0) o next).2 then apA A (lifeP (tvOf A 0) o next).1 else A) 0 = lifeS (tvOf A 0) o next := by
    unfold lifeS
    split
    · rename_i hok
      rw [tvOf_apA, if_pos]
      unfold lifeP
      split
      · exact (initP_tx _ _ _).1.symm
      · split
        · exact (addP_tx _ _ _ _).1.symm
        · split
          · exact (endP_tx _ _ _ _).1.symm
          · rfl
    · rfl
  rw [← htv] at s1 s2
  exact ⟨x', D', _, e, ls_chg h t c s1, s2, c.fr, c.new⟩
end Go.Proofs.Ytlcojbodcbjkaaa
