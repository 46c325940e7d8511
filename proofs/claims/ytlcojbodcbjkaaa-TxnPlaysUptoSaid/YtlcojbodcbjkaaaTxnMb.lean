/-
  TxnMb: lemmas on what Go functions of this seat come to (for whatever arguments, as each says). No condition but those that stand in each lemma.
-/
import Derived.Test.YtlcojbodcbjkaaaTxnF1
import Derived.Test.YtlcojbodcbjkaaaTxnMa
namespace Go.Proofs.Ytlcojbodcbjkaaa
open Go Go.Ev
set_option maxRecDepth 100000
set_option linter.unusedVariables false
set_option linter.unusedSimpArgs false

/-- an Op -/
structure OV where
  k : Int
  n : Int
  inc : Int
  ep : Int
  part : Int
  pid : Int
  com : Bool
  doit : Bool
  rk : Int
  rtx : Int
  rinc : Int
  rpid : Int
  rep : Int
  rq : Option Addr × Nat × Nat
  rcom : Bool
def OV.cs (o : OV) : List Value := [.int .i64 o.k, .int .i64 o.n, .int .i64 o.inc, .int .i64 o.ep, .int .i64 o.part, .int .u64 o.pid, .bool o.com, .bool o.doit, .int .i64 o.rk, .int .i64 o.rtx, .int .i64 o.rinc, .int .u64 o.rpid, .int .i64 o.rep, .slice o.rq.1 o.rq.2.1 o.rq.2.2, .bool o.rcom]
def OV.arg (o : OV) : Value := .agg #[.int .i64 o.k, .int .i64 o.n, .int .i64 o.inc, .int .i64 o.ep, .int .i64 o.part, .int .u64 o.pid, .bool o.com, .bool o.doit, .int .i64 o.rk, .int .i64 o.rtx, .int .i64 o.rinc, .int .u64 o.rpid, .int .i64 o.rep, .slice o.rq.1 o.rq.2.1 o.rq.2.2, .bool o.rcom]

section
variable {w : World} {D : Nat → Prop} {tb : Nat} {A : List (Int × TV)}

end
end Go.Proofs.Ytlcojbodcbjkaaa

namespace Go.Proofs.Ytlcojbodcbjkaaa
open Go Go.Ev
set_option maxRecDepth 100000
set_option linter.unusedVariables false
set_option linter.unusedSimpArgs false

theorem tvOf_apA (A : List (Int × TV)) (r : RV) (n : Int) : tvOf (apA A r) n = if n = r.tx then stepT r (tvOf A n) else tvOf A n := by
  unfold tvOf apA
  rw [kget_ups]
  by_cases h : n = r.tx
  · rw [if_pos h, if_pos h, h]; rfl
  · rw [if_neg h, if_neg h]

structure LI (t : TV) (next m : Int) : Prop where
  st : 0 ≤ t.st ∧ t.st ≤ 4
  zero : t.st = 0 → t = tv0
  ep : t.ep % 2 = 0 ∧ 0 ≤ t.ep ∧ t.ep ≤ 1000
  op : (t.st = 2 ∨ t.st = 3) ↔ t.parts ≠ []
  ep2 : t.st = 2 → t.ep ≤ 998
  prep : t.st = 3 → t.last = t.ep ∧ t.lpid = t.pid ∧ t.ep ≤ 998
  inc : 0 ≤ t.inc ∧ t.inc ≤ m
  pid : 0 ≤ t.pid ∧ t.pid < next
  lpid : 0 ≤ t.lpid ∧ t.lpid < next
  last : t.st ≠ 3 → t.lpid = t.pid → t.last < t.ep
  parts : ∀ p ∈ t.parts, 0 ≤ p ∧ p < 6
  nodup : t.parts.Nodup

structure LR (t t' : TV) : Prop where
  same : t'.pid = t.pid → t.ep ≤ t'.ep
  new : t'.pid ≠ t.pid → t'.ep = 0
  inc : t.inc ≤ t'.inc

theorem LI.len {t : TV} {n m : Int} (h : LI t n m) : t.parts.length ≤ 6 := by
  have h1 : t.parts.length ≤ ([0, 1, 2, 3, 4, 5] : List Int).length := List.Nodup.length_le_of_subset h.nodup (fun p hp => by
    have := h.parts p hp
    simp; omega)
  simpa using h1

theorem LI.mono {t : TV} {n m n' m' : Int} (h : LI t n m) (hn : n ≤ n') (hm : m ≤ m') : LI t n' m' :=
  ⟨h.st, h.zero, h.ep, h.op, h.ep2, h.prep, ⟨h.inc.1, by have := h.inc.2; omega⟩, ⟨h.pid.1, by have := h.pid.2; omega⟩, ⟨h.lpid.1, by have := h.lpid.2; omega⟩, h.last, h.parts, h.nodup⟩
theorem LR.refl (t : TV) : LR t t := ⟨fun _ => Int.le_refl _, fun h => absurd rfl h, Int.le_refl _⟩

end Go.Proofs.Ytlcojbodcbjkaaa

namespace Go.Proofs.Ytlcojbodcbjkaaa
open Go Go.Ev
set_option maxRecDepth 100000
set_option linter.unusedVariables false
set_option linter.unusedSimpArgs false

abbrev RT : Ty := .cons (.int .i64) (.cons (.int .i64) (.cons (.int .i64) (.cons (.int .u64) (.cons (.int .i64) (.cons (.slice (.int .i64)) (.cons .bool .nil))))))
abbrev OT : Ty := .cons (.int .i64) (.cons (.int .i64) (.cons (.int .i64) (.cons (.int .i64) (.cons (.int .i64) (.cons (.int .u64) (.cons .bool (.cons .bool (.cons RT .nil))))))))

def toO (x : OT.Val) : OV := ⟨x.1, x.2.1, x.2.2.1, x.2.2.2.1, x.2.2.2.2.1, x.2.2.2.2.2.1, x.2.2.2.2.2.2.1, x.2.2.2.2.2.2.2.1, x.2.2.2.2.2.2.2.2.1.1, x.2.2.2.2.2.2.2.2.1.2.1, x.2.2.2.2.2.2.2.2.1.2.2.1, x.2.2.2.2.2.2.2.2.1.2.2.2.1, x.2.2.2.2.2.2.2.2.1.2.2.2.2.1, x.2.2.2.2.2.2.2.2.1.2.2.2.2.2.1.1, x.2.2.2.2.2.2.2.2.1.2.2.2.2.2.2.1⟩

theorem toO_at {w : World} {cs : List Value} {x : OT.Val} (h : OT.At w cs x) : cs = (toO x).cs := by
  obtain ⟨c1, d1, rfl, _, ⟨rfl, _⟩, c2, d2, rfl, _, ⟨rfl, _⟩, c3, d3, rfl, _, ⟨rfl, _⟩, c4, d4, rfl, _, ⟨rfl, _⟩, c5, d5, rfl, _, ⟨rfl, _⟩, c6, d6, rfl, _, ⟨rfl, _⟩, c7, d7, rfl, _, rfl, c8, d8, rfl, _, rfl, c9, d9, rfl, _, ⟨e1, g1, rfl, _, ⟨rfl, _⟩, e2, g2, rfl, _, ⟨rfl, _⟩, e3, g3, rfl, _, ⟨rfl, _⟩, e4, g4, rfl, _, ⟨rfl, _⟩, e5, g5, rfl, _, ⟨rfl, _⟩, e6, g6, rfl, _, ⟨rfl, _⟩, e7, g7, rfl, _, rfl, rfl⟩, rfl⟩ := h
  rfl

theorem op_at {w : World} {x0 : (Ty.slice OT).Val} (h0 : (Ty.slice OT).At w [.slice x0.1.1 x0.1.2.1 x0.1.2.2] x0) {k : Nat} (hk : k < x0.2.length) :
    ∃ a, idxA x0.1.1 x0.1.2.1 15 (k : Int) = some a ∧ ldN w a 0 15 = some (toO x0.2[k]).cs := by
  obtain ⟨a, cs, i1, g1, g2, g3⟩ := slice_get h0 hk
  have ec := toO_at g3
  have esz : Ty.size OT = 15 := rfl
  rw [esz] at i1
  exact ⟨a, i1, by rw [← ec]; exact g2.ldN (n := 15) (by rw [ec]; rfl)⟩

theorem ovcs_oc (o : OV) : ∀ u ∈ o.cs, u.oneCell' = true := by
  intro u hu
  simp only [OV.cs, List.mem_cons, List.not_mem_nil, or_false] at hu
  rcases hu with rfl | rfl | rfl | rfl | rfl | rfl | rfl | rfl | rfl | rfl | rfl | rfl | rfl | rfl | rfl <;> rfl

/-- a copy of an Op in a block of its own -/
theorem newO (x : World) (o : OV) : ∃ x', stL (x.alloc (.cells #[.int .i64 0, .int .i64 0, .int .i64 0, .int .i64 0, .int .i64 0, .int .u64 0, .bool false, .bool false, .int .i64 0, .int .i64 0, .int .i64 0, .int .u64 0, .int .i64 0, .slice none 0 0, .bool false] 32)) ⟨x.heap.size, 0, none⟩ [.int .i64 o.k, .int .i64 o.n, .int .i64 o.inc, .int .i64 o.ep, .int .i64 o.part, .int .u64 o.pid, .bool o.com, .bool o.doit, .int .i64 o.rk, .int .i64 o.rtx, .int .i64 o.rinc, .int .u64 o.rpid, .int .i64 o.rep, .slice o.rq.1 o.rq.2.1 o.rq.2.2, .bool o.rcom] 0 = some x' ∧
    Blk x' x.heap.size o.cs 32 ∧ Fr [] x x' ∧ ldN x' ⟨x.heap.size, 0, none⟩ 0 15 = some [.int .i64 o.k, .int .i64 o.n, .int .i64 o.inc, .int .i64 o.ep, .int .i64 o.part, .int .u64 o.pid, .bool o.com, .bool o.doit, .int .i64 o.rk, .int .i64 o.rtx, .int .i64 o.rinc, .int .u64 o.rpid, .int .i64 o.rep, .slice o.rq.1 o.rq.2.1 o.rq.2.2, .bool o.rcom] := by
  have b : Blk (x.alloc (.cells #[.int .i64 0, .int .i64 0, .int .i64 0, .int .i64 0, .int .i64 0, .int .u64 0, .bool false, .bool false, .int .i64 0, .int .i64 0, .int .i64 0, .int .u64 0, .int .i64 0, .slice none 0 0, .bool false] 32)) x.heap.size (OV.cs ⟨0, 0, 0, 0, 0, 0, false, false, 0, 0, 0, 0, 0, (none, 0, 0), false⟩) 32 := Blk.new x (OV.cs ⟨0, 0, 0, 0, 0, 0, false, false, 0, 0, 0, 0, 0, (none, 0, 0), false⟩) 32
  have f : Fr [] x (x.alloc (.cells #[.int .i64 0, .int .i64 0, .int .i64 0, .int .i64 0, .int .i64 0, .int .u64 0, .bool false, .bool false, .int .i64 0, .int .i64 0, .int .i64 0, .int .u64 0, .int .i64 0, .slice none 0 0, .bool false] 32)) := Fr.alloc _
  obtain ⟨x', h1, h2, h3⟩ := b.stL (vs := o.cs) rfl (ovcs_oc o)
  exact ⟨x', h1, h2, (f.app h3).mono (by intro y hy hl; simp at hy; omega), h2.ldN (n := 15) rfl⟩

/-- a name's state in a block of its own -/
theorem newT2 (x : World) (v : TV) (q : Option Addr × Nat × Nat) : ∃ x', stL (x.alloc (.cells #[.int .i64 0, .int .i64 0, .int .u64 0, .int .i64 0, .slice none 0 0, .int .i64 0, .int .u64 0, .bool false] 46)) ⟨x.heap.size, 0, none⟩ [.int .i64 v.st, .int .i64 v.inc, .int .u64 v.pid, .int .i64 v.ep, .slice q.1 q.2.1 q.2.2, .int .i64 v.last, .int .u64 v.lpid, .bool v.com] 0 = some x' ∧
    Blk x' x.heap.size (v.cs q) 46 ∧ Fr [] x x' := by
  obtain ⟨b, f⟩ := zero46 x
  obtain ⟨x', h1, h2, h3⟩ := b.stL (vs := v.cs q) rfl (tvcs_oc v q)
  exact ⟨x', h1, h2, (f.app h3).mono (by intro y hy hl; simp at hy; omega)⟩

/-- the state of a life -/
structure LS (W x : World) (tb : Nat) (D : Nat → Prop) (A : List (Int × TV)) (next m : Int) : Prop where
  tab : Tb x D tb A
  li : LI (tvOf A 0) next m
  fr : Fr [] W x
  hD : ∀ y, D y → W.heap.size ≤ y

theorem LS.len {W x : World} {tb : Nat} {D : Nat → Prop} {A : List (Int × TV)} {next m : Int} (h : LS W x tb D A next m) : ∀ v, kget A 0 = some v → v.parts.length ≤ 6 := by
  intro v hv
  have : tvOf A 0 = v := by unfold tvOf; rw [hv]; rfl
  rw [← this]; exact h.li.len
theorem LS.lenM {W x : World} {tb : Nat} {D : Nat → Prop} {A : List (Int × TV)} {next m : Int} (h : LS W x tb D A next m) : ∀ v, kget A 0 = some v → v.parts.length ≤ 1000000000 := fun v hv => by have := h.len v hv; omega

theorem LS.step {W x x' : World} {tb : Nat} {D : Nat → Prop} {A : List (Int × TV)} {next m : Int} (h : LS W x tb D A next m) (f : Fr [] x x') : LS W x' tb D A next m :=
  ⟨h.tab.fr f (by simp), h.li, by have := h.fr; exact (Fr.mono (Fr.app this f) (by have z0_ := Fr.size this; have z1_ := Fr.size f; intro y_ hy_ hl_; grind [blkOf])), h.hD⟩

end Go.Proofs.Ytlcojbodcbjkaaa
