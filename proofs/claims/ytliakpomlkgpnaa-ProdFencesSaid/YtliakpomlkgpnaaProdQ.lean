/-
  ProdQ: lemmas on what Go functions of this seat come to (for whatever arguments, as each says). No condition but those that stand in each lemma.
-/
import Derived.Test.YtliakpomlkgpnaaRs
import Derived.Test.YtliakpomlkgpnaaProdP
namespace Go.Proofs.Ytliakpomlkgpnaa
open Go Go.Ev
set_option maxRecDepth 100000
set_option linter.unusedVariables false
set_option linter.unusedSimpArgs false

abbrev BT : Ty := .cons (.int .i64) (.cons (.int .i64) (.cons (.int .u64) (.cons (.int .i64) (.cons (.int .i64) (.cons .bool (.cons .bool (.cons .bool (.cons (.slice (.slice (.int .u8))) .nil))))))))
def toB (x : BT.Val) : BV := ⟨x.1, x.2.1, x.2.2.1, x.2.2.2.1, x.2.2.2.2.1, x.2.2.2.2.2.1, x.2.2.2.2.2.2.1, x.2.2.2.2.2.2.2.1, x.2.2.2.2.2.2.2.2.1.1, x.2.2.2.2.2.2.2.2.1.2.map (·.2)⟩

theorem toB_at {w : World} {cs : List Value} {x : BT.Val} (h : BT.At w cs x) (hn : (toB x).vs.length ≤ 5864062014634) : cs = (toB x).cs ∧ BOk w (toB x) := by
  obtain ⟨c1, d1, rfl, _, ⟨rfl, r1⟩, c2, d2, rfl, _, ⟨rfl, _⟩, c3, d3, rfl, _, ⟨rfl, r3⟩, c4, d4, rfl, _, ⟨rfl, _⟩, c5, d5, rfl, _, ⟨rfl, _⟩, c6, d6, rfl, _, rfl, c7, d7, rfl, _, rfl, c8, d8, rfl, _, rfl, c9, d9, rfl, _, h9, rfl⟩ := h
  have e9 := h9.1
  have m9 := h9.2.2.2.1
  have l9 := h9.2.2.1
  have n9 := h9.2.1
  subst e9
  obtain ⟨hL, _, _⟩ := lst_of_at h9
  have hml : maxLen = 9223372036854775807 := by decide
  refine ⟨rfl, ⟨⟨_, hL, fun y hy => hy⟩, by omega, i64_range r1, u64_range r3⟩⟩

theorem t22b : TSl Try.prog 22 30 9 72 := tsl_of Try.underlying22 (by kernel_rfl)

/-- a log in memory -/
structure LyOk (W x : World) (D : Nat → Prop) (tb : Nat) (s : Ly) (q : Option Addr × Nat × Nat) (k : Nat) : Prop where
  tab : Tb x D tb s.1 s.2.1
  own : Own x 30 9 q (logCs s.2.2.1)
  fr : Fr [] W x
  hD : ∀ y, D y → W.heap.size ≤ y
  hq : ∀ y ∈ blkOf q, W.heap.size ≤ y ∧ ¬ D y
  five : Five s.1
  abl : s.2.1.length ≤ k
  log : s.2.2.1.length ≤ k
  at_ : -9223372036854775808 ≤ s.2.2.2 ∧ s.2.2.2 < 9223372036854775808

theorem wrap_in (n : Int) : -9223372036854775808 ≤ IntKind.i64.wrap n ∧ IntKind.i64.wrap n < 9223372036854775808 := by
  have e : IntKind.i64.wrap n = (if 9223372036854775808 ≤ n % 18446744073709551616 then n % 18446744073709551616 - 18446744073709551616 else n % 18446744073709551616) := by simp [IntKind.wrap, IntKind.bits, IntKind.signed]
  rw [e]; split <;> omega

theorem lay_round {W x : World} {D : Nat → Prop} {tb : Nat} {s : Ly} {q u : Option Addr × Nat × Nat} {k : Nat} {b : BV} {a : Addr} (h : LyOk W x D tb s q k) (hk : k < 1954687338212) (hkl : (k : Int) < (u.2.1 : Int)) (hb : BOk W b) (i1 : idxA u.1 u.2.1 9 (k : Int) = some a) (l1 : ldN x a 0 9 = some b.cs) :
    ∃ q' x' D', g9_l4_b u (some ⟨tb, 0, none⟩) (q, s.2.2.2, (k : Int)) x = some (.normal, (q', (layStep s b).2.2.2, ((k + 1 : Nat) : Int)), x') ∧ LyOk W x' D' tb (layStep s b) q' (k + 1) := by
  have hs := wrap_succ (n := k) (by omega)
  have ltD := h.tab.lt
  have ltq := own_lt h.own
  have zW := h.fr.size
  have e3 : stL (x.alloc (.cells #[.int .i64 0, .int .i64 0, .int .u64 0, .int .i64 0, .int .i64 0, .bool false, .bool false, .bool false, .slice none 0 0] 30)) ⟨x.heap.size, 0, none⟩ b.cs 0 = some (x.alloc (.cells b.cs.toArray 30)) := stL_new rfl (by simp [BV.cs])
  have f1 : Fr [] x (x.alloc (.cells b.cs.toArray 30)) := Fr.alloc _
  have b1 := Blk.new x b.cs 30
  obtain ⟨x1, hx1⟩ : ∃ x1, x.alloc (.cells b.cs.toArray 30) = x1 := ⟨_, rfl⟩
  rw [hx1] at e3 f1 b1
  obtain ⟨g, hg⟩ : ∃ g, x.heap.size = g := ⟨_, rfl⟩
  rw [hg] at e3 b1
  have lg := b1.lt
  obtain ⟨b', hb'⟩ : ∃ b' : BV, { b with base := s.2.2.2 } = b' := ⟨_, rfl⟩
  have s1 : st1 x1 ⟨g, 0, none⟩ (.int .i64 s.2.2.2) = some (x1.setCell ⟨g, 0, none⟩ (.int .i64 s.2.2.2)) := b1.st1 (by simp [BV.cs]) rfl
  have f2 : Fr [g] x1 (x1.setCell ⟨g, 0, none⟩ (.int .i64 s.2.2.2)) := Fr.setCell
  have b2 : Blk (x1.setCell ⟨g, 0, none⟩ (.int .i64 s.2.2.2)) g b'.cs 30 := by subst hb'; exact b1.set 0 (.int .i64 s.2.2.2)
  obtain ⟨x2, hx2⟩ : ∃ x2, x1.setCell ⟨g, 0, none⟩ (.int .i64 s.2.2.2) = x2 := ⟨_, rfl⟩
  rw [hx2] at s1 f2 b2
  have F2 : Fr [] x x2 := (Fr.mono (Fr.app f1 f2) (by have z0_ := Fr.size f1; have z1_ := Fr.size f2; intro y_ hy_ hl_; grind [blkOf]))
  have FW2 : Fr [] W x2 := by have ff := h.fr; exact (Fr.mono (Fr.app ff F2) (by have z0_ := Fr.size ff; have z1_ := Fr.size F2; intro y_ hy_ hl_; grind [blkOf]))
  have hb0 : BOk W b' := by
    subst hb'
    exact ⟨hb.ls, hb.n, h.at_, hb.r.2⟩
  have t2 := h.tab.fr F2 (by simp)
  have o2 := h.own.fr F2 (by simp)
  obtain ⟨x3, e4, f3⟩ := check11 t2 (hb0.fr FW2) (fun v hv => by have := h.five _ (kget_mem hv); exact Nat.lt_of_le_of_lt this (by decide))
  have FW3 : Fr [] W x3 := (Fr.mono (Fr.app FW2 f3) (by have z0_ := Fr.size FW2; have z1_ := Fr.size f3; intro y_ hy_ hl_; grind [blkOf]))
  have b3 := b2.fr f3 (by simp)
  have t3 := t2.fr f3 (by simp)
  have o3 := o2.fr f3 (by simp)
  have k9 : b.cs = [.int .i64 b.base, .int .i64 b.ep, .int .u64 b.pid, .int .i64 b.pe, .int .i64 b.seq, .bool b.txn, .bool b.con, .bool b.com, .slice b.q.1 b.q.2.1 b.q.2.2] := rfl
  have k9' : b'.cs = [.int .i64 b'.base, .int .i64 b'.ep, .int .u64 b'.pid, .int .i64 b'.pe, .int .i64 b'.seq, .bool b'.txn, .bool b'.con, .bool b'.com, .slice b'.q.1 b'.q.2.1 b'.q.2.2] := rfl
  have l2 : ldN x2 ⟨g, 0, none⟩ 0 9 = some b'.cs := blk_ldN b2 (n := 9) (by simp [BV.cs])
  have l3 : ldN x3 ⟨g, 0, none⟩ 0 9 = some b'.cs := blk_ldN b3 (n := 9) (by simp [BV.cs])
  rw [k9] at l1 e3
  rw [k9'] at l2 l3
  have e4' : callF Try.prog 11 #[.pointer (some ⟨tb, 0, none⟩), .agg #[.int .i64 b'.base, .int .i64 b'.ep, .int .u64 b'.pid, .int .i64 b'.pe, .int .i64 b'.seq, .bool b'.txn, .bool b'.con, .bool b'.com, .slice b'.q.1 b'.q.2.1 b'.q.2.2]] x2 = some (.tuple #[.int .i64 (chkA s.1 b').1, .bool (chkA s.1 b').2.1, .int .i64 (chkA s.1 b').2.2], x3) := e4
  have G0 : ∀ a b c d e f g h i : Value, [a, b, c, d, e, f, g, h, i].getD 0 undef = a := fun _ _ _ _ _ _ _ _ _ => rfl
  have G1 : ∀ a b c d e f g h i : Value, [a, b, c, d, e, f, g, h, i].getD 1 undef = b := fun _ _ _ _ _ _ _ _ _ => rfl
  have G2 : ∀ a b c d e f g h i : Value, [a, b, c, d, e, f, g, h, i].getD 2 undef = c := fun _ _ _ _ _ _ _ _ _ => rfl
  have G3 : ∀ a b c d e f g h i : Value, [a, b, c, d, e, f, g, h, i].getD 3 undef = d := fun _ _ _ _ _ _ _ _ _ => rfl
  have G4 : ∀ a b c d e f g h i : Value, [a, b, c, d, e, f, g, h, i].getD 4 undef = e := fun _ _ _ _ _ _ _ _ _ => rfl
  have G5 : ∀ a b c d e f g h i : Value, [a, b, c, d, e, f, g, h, i].getD 5 undef = f := fun _ _ _ _ _ _ _ _ _ => rfl
  have G6 : ∀ a b c d e f g h i : Value, [a, b, c, d, e, f, g, h, i].getD 6 undef = g := fun _ _ _ _ _ _ _ _ _ => rfl
  have G7 : ∀ a b c d e f g h i : Value, [a, b, c, d, e, f, g, h, i].getD 7 undef = h := fun _ _ _ _ _ _ _ _ _ => rfl
  have G8 : ∀ a b c d e f g h i : Value, [a, b, c, d, e, f, g, h, i].getD 8 undef = i := fun _ _ _ _ _ _ _ _ _ => rfl
  by_cases hok : (chkA s.1 b').2.2 = 0 ∧ (chkA s.1 b').2.1 = false
  · obtain ⟨x4, D4, e5, t4, c4⟩ := apply14 t3 (hb0.fr FW3) (fun v hv => h.five v hv) (by have := h.abl; omega)
    obtain ⟨S4, f4, hS4⟩ := c4.fr
    have n4 := c4.new
    have zx2 := F2.size
    have zx3 := f3.size
    have ng : g ∉ S4 := fun hm => by have := ltD g (hS4 g hm); omega
    have b4 := b3.fr f4 ng
    have o4 := o3.fr f4 (fun y hy hm => (h.hq y hy).2 (hS4 y hm))
    have FW4 : Fr [] W x4 := (FW3.app f4).mono (by intro y hy hl; simp at hy; have := h.hD y (hS4 y hy); omega)
    have lt4 := t4.lt
    have hD4 : ∀ y, D4 y → W.heap.size ≤ y := fun y hy => by
      have := FW3.size
      rcases n4 y hy with hh | hh
      · exact h.hD y hh
      · omega
    have hol := o4.len
    rw [logCs_len] at hol
    have hll := h.log
    have hml : maxLen = 9223372036854775807 := by decide
    obtain ⟨q1, x5, e6, o5, f5, m5, _⟩ := app_one t22b o4 (ys := b'.cs) rfl (by intro y hy; simp [BV.cs] at hy; rcases hy with rfl | rfl | rfl | rfl | rfl | rfl | rfl | rfl | rfl <;> rfl) (by omega) (by omega) 22 #[false, false]
    have ngq : g ∉ blkOf q := fun hm => by have := ltq g hm; omega
    have b5 := b4.fr f5 ngq
    have t5 := t4.fr f5 (by intro y hy _ hd; rcases n4 y hd with hh | hh; exact (h.hq y hy).2 hh; have := ltq y hy; omega)
    have FW5 : Fr [] W x5 := (FW4.app f5).mono (by intro y hy hl; simp at hy; have := (h.hq y hy).1; omega)
    have hv' : b'.vs.length = b'.q.2.1 := hb0.len
    have e7 := size18 (b := b') x5 hv'
    obtain ⟨_, f6⟩ := spill x5 b'
    obtain ⟨x6, hx6⟩ : ∃ x6, x5.alloc (.cells #[.int .i64 b'.base, .int .i64 b'.ep, .int .u64 b'.pid, .int .i64 b'.pe, .int .i64 b'.seq, .bool b'.txn, .bool b'.con, .bool b'.com, .slice b'.q.1 b'.q.2.1 b'.q.2.2] 30) = x6 := ⟨_, rfl⟩
    rw [hx6] at e7 f6
    have FW6 : Fr [] W x6 := (Fr.mono (Fr.app FW5 f6) (by have z0_ := Fr.size FW5; have z1_ := Fr.size f6; intro y_ hy_ hl_; grind [blkOf]))
    have est : layStep s b = ((apA s.1 s.2.1 b').1, (apA s.1 s.2.1 b').2, s.2.2.1 ++ [b'], IntKind.i64.wrap (s.2.2.2 + (b'.sz : Int))) := by unfold layStep; simp only [hb']; rw [if_pos hok]
    have hcat : logCs s.2.2.1 ++ b'.cs = logCs (s.2.2.1 ++ [b']) := by simp [logCs]
    rw [hcat] at o5
    rw [est]
    have z4 := f4.size
    have hab := apA_abl (A := s.1) (abl := s.2.1) (b := b')
    have habk := h.abl
    refine ⟨q1, x6, D4, ?_, ⟨t5.fr f6 (by simp), o5.fr f6 (by simp), FW6, hD4, ?_, apA_five h.five, by show (apA s.1 s.2.1 b').2.length ≤ k + 1; omega, by simp; omega, wrap_in _⟩⟩
    · have l4 : ldN x4 ⟨g, 0, none⟩ 0 9 = some b'.cs := blk_ldN b4 (n := 9) (by simp [BV.cs])
      have l5 : ldN x5 ⟨g, 0, none⟩ 0 9 = some b'.cs := blk_ldN b5 (n := 9) (by simp [BV.cs])
      rw [k9'] at l4 l5
      have e5' : callF Try.prog 14 #[.pointer (some ⟨tb, 0, none⟩), .agg #[.int .i64 b'.base, .int .i64 b'.ep, .int .u64 b'.pid, .int .i64 b'.pe, .int .i64 b'.seq, .bool b'.txn, .bool b'.con, .bool b'.com, .slice b'.q.1 b'.q.2.1 b'.q.2.2]] x3 = some (.tuple #[], x4) := e5
      have e6' : callB Try.prog .append #[22, 22] 22 #[false, false] #[.slice q.1 q.2.1 q.2.2, .slice (some ⟨x4.heap.size, 0, none⟩) 1 1] (x4.alloc (.cells #[.int .i64 b'.base, .int .i64 b'.ep, .int .u64 b'.pid, .int .i64 b'.pe, .int .i64 b'.seq, .bool b'.txn, .bool b'.con, .bool b'.com, .slice b'.q.1 b'.q.2.1 b'.q.2.2] 30)) = some (.slice q1.1 q1.2.1 q1.2.2, x5) := e6
      have e7' : callF Try.prog 18 #[.agg #[.int .i64 b'.base, .int .i64 b'.ep, .int .u64 b'.pid, .int .i64 b'.pe, .int .i64 b'.seq, .bool b'.txn, .bool b'.con, .bool b'.com, .slice b'.q.1 b'.q.2.1 b'.q.2.2]] x5 = some (.int .i64 (b'.sz : Int), x6) := e7
      have h0' : ((chkA s.1 b').2.2 == 0) = true := by simp [hok.1]
      have h1 := hok.2
      unfold g9_l4_b
      simp only [decide_eq_true_eq, hkl, if_true, i1, Option.bind_some]
      rw [l1, Option.bind_some]
      simp only [G0, G1, G2, G3, G4, G5, G6, G7, G8, asI_int, asB_bool, asSl_slice, Option.bind_some, hg]
      rw [e3, Option.bind_some, s1, Option.bind_some, l2, Option.bind_some]
      simp only [G0, G1, G2, G3, G4, G5, G6, G7, G8, asI_int, asB_bool, asSl_slice, Option.bind_some]
      rw [e4', Option.bind_some]
      simp only [asTup3, Option.bind_some, getD0, getD1, getD2, asI_int, asB_bool, h0', h1, Bool.not_false, if_true]
      rw [l3, Option.bind_some]
      simp only [G0, G1, G2, G3, G4, G5, G6, G7, G8, asI_int, asB_bool, asSl_slice, Option.bind_some]
      rw [e5', Option.bind_some]
      simp only [asTup0, Option.bind_some]
      rw [l4, Option.bind_some]
      simp only [G0, G1, G2, G3, G4, G5, G6, G7, G8, asI_int, asB_bool, asSl_slice, Option.bind_some]
      rw [e6', Option.bind_some]
      simp only [asSl_slice, Option.bind_some]
      rw [l5, Option.bind_some]
      simp only [G0, G1, G2, G3, G4, G5, G6, G7, G8, asI_int, asB_bool, asSl_slice, Option.bind_some]
      rw [e7', Option.bind_some]
      simp only [hs, obs, asP_pointer, asB_bool, asI_int, asS_string, asSl_slice, asM_map, asTup0, asTup1, asTup2, asTup3, asTup4, asTup5, asTup6, asTup7, asTup8, asTup9, getD0, getD1, getD2, getD3, getD4, getD5, getD6, getD7, getD8, getD9, getD10, getD11, Bool.not_true, Bool.not_false, Bool.false_eq_true, Bool.true_eq_false, ↓reduceIte, decide_true, decide_false, Option.isNone_some, Option.isNone_none, Option.isSome_some, Option.isSome_none, beq_self_eq_true, bne_self_eq_false, Bool.and_true, Bool.true_and, Bool.and_false, Bool.false_and, not_true_eq_false, not_false_eq_true]
    · intro y hy
      have := FW4.size
      rcases m5 y hy with hh | hh
      · refine ⟨(h.hq y hh).1, fun hd => ?_⟩
        rcases n4 y hd with hk' | hk'
        · exact (h.hq y hh).2 hk'
        · have := ltq y hh; omega
      · exact ⟨by omega, fun hd => by have := lt4 y hd; omega⟩
  · have est : layStep s b = s := by unfold layStep; simp only [hb']; rw [if_neg hok]
    rw [est]
    refine ⟨q, x3, D, ?_, ⟨t3, o3, FW3, h.hD, h.hq, h.five, by have := h.abl; omega, by have := h.log; omega, h.at_⟩⟩
    unfold g9_l4_b
    simp only [decide_eq_true_eq, hkl, if_true, i1, Option.bind_some]
    rw [l1, Option.bind_some]
    simp only [G0, G1, G2, G3, G4, G5, G6, G7, G8, asI_int, asB_bool, asSl_slice, Option.bind_some, hg]
    rw [e3, Option.bind_some, s1, Option.bind_some, l2, Option.bind_some]
    simp only [G0, G1, G2, G3, G4, G5, G6, G7, G8, asI_int, asB_bool, asSl_slice, Option.bind_some]
    rw [e4', Option.bind_some]
    simp only [asTup3, Option.bind_some, getD0, getD1, getD2, asI_int, asB_bool]
    by_cases h0 : (chkA s.1 b').2.2 = 0
    · have h1 : (chkA s.1 b').2.1 = true := by
        cases hh : (chkA s.1 b').2.1 with
        | true => rfl
        | false => exact absurd ⟨h0, hh⟩ hok
      have h0' : ((chkA s.1 b').2.2 == 0) = true := by simp [h0]
      simp only [h0', h1, hs, obs, asP_pointer, asB_bool, asI_int, asS_string, asSl_slice, asM_map, asTup0, asTup1, asTup2, asTup3, asTup4, asTup5, asTup6, asTup7, asTup8, asTup9, getD0, getD1, getD2, getD3, getD4, getD5, getD6, getD7, getD8, getD9, getD10, getD11, Bool.not_true, Bool.not_false, Bool.false_eq_true, Bool.true_eq_false, ↓reduceIte, decide_true, decide_false, Option.isNone_some, Option.isNone_none, Option.isSome_some, Option.isSome_none, beq_self_eq_true, bne_self_eq_false, Bool.and_true, Bool.true_and, Bool.and_false, Bool.false_and, not_true_eq_false, not_false_eq_true]
    · have h0' : ((chkA s.1 b').2.2 == 0) = false := by simp [h0]
      simp only [h0', hs, obs, asP_pointer, asB_bool, asI_int, asS_string, asSl_slice, asM_map, asTup0, asTup1, asTup2, asTup3, asTup4, asTup5, asTup6, asTup7, asTup8, asTup9, getD0, getD1, getD2, getD3, getD4, getD5, getD6, getD7, getD8, getD9, getD10, getD11, Bool.not_true, Bool.not_false, Bool.false_eq_true, Bool.true_eq_false, ↓reduceIte, decide_true, decide_false, Option.isNone_some, Option.isNone_none, Option.isSome_some, Option.isSome_none, beq_self_eq_true, bne_self_eq_false, Bool.and_true, Bool.true_and, Bool.and_false, Bool.false_and, not_true_eq_false, not_false_eq_true]
end Go.Proofs.Ytliakpomlkgpnaa
