/-
  WalFrameCrcX: lemmas on what Go functions of this seat come to (for whatever arguments, as each says). No condition but those that stand in each lemma.
-/
import Derived.Test.YtnflklkjjjlpaaaWalF0
import Derived.Test.YtnflklkjjjlpaaaWalOnceC
import Derived.Test.YtnflklkjjjlpaaaCrcM
import Derived.Test.YtnflklkjjjlpaaaLb5
import Derived.Lib.SlBytesConst
/-
  WalFrameCrcC: lemmas on what Go functions of this seat come to (for whatever arguments, as each says). No condition but those that stand in each lemma.
-/
namespace Go.Proofs.Ytnflklkjjjlpaaa
open Go Go.Ev Go.Crc
set_option maxRecDepth 100000
set_option linter.unusedVariables false
set_option linter.unusedSimpArgs false
set_option linter.unusedSimpArgs false

theorem fdiv1 (v : BitVec 32) : Int.fdiv ((v.toNat : Nat) : Int) (2 ^ (min (Int.toNat 1) 32)) = (((v >>> 1).toNat : Nat) : Int) := fdiv_shr v 1
theorem fdiv8 (v : BitVec 32) : Int.fdiv ((v.toNat : Nat) : Int) (2 ^ (min (Int.toNat 8) 32)) = (((v >>> 8).toNat : Nat) : Int) := fdiv_shr v 8

def tl (i : Nat) : List Value := (List.range 256).map fun j => Value.int .u32 (if j < i then tab j else 0)
def hd (d m s : Int) : List Value := [.int .u32 d, .int .i32 m, .int .u32 s]

theorem tl_set (d m s : Int) {i : Nat} (hi : i < 256) : (hd d m s ++ tl i).set (3 + i) (.int .u32 (tab i)) = hd d m s ++ tl (i + 1) := by
  apply List.ext_getElem
  · simp [hd, tl]
  · intro j h1 h2
    rw [List.getElem_set]
    by_cases hj : 3 + i = j
    · subst hj
      rw [if_pos rfl, List.getElem_append_right (by simp [hd])]
      have e3 : ∀ h, (tl (i + 1))[3 + i - (hd d m s).length]'h = (tl (i + 1))[i]'(by simp [tl]; exact hi) := by
        intro h; congr 1; simp [hd]
      rw [e3]
      simp [tl]
    · simp only [hj, if_false]
      by_cases h3 : j < 3
      · rw [List.getElem_append_left (by simp [hd]; omega), List.getElem_append_left (by simp [hd]; omega)]
      · rw [List.getElem_append_right (by simp [hd]; omega), List.getElem_append_right (by simp [hd]; omega)]
        simp only [tl, List.getElem_map, List.getElem_range, hd, List.length_cons, List.length_nil]
        by_cases h4 : j - 3 < i
        · have : j - 3 < i + 1 := by omega
          simp [h4, this]
        · have : ¬ j - 3 < i + 1 := by omega
          simp [h4, this]

theorem tl_get (d m s : Int) {i : Nat} (hi : i < 256) : (hd d m s ++ tl 256)[3 + i]? = some (.int .u32 (tab i)) := by
  rw [List.getElem?_append_right (by simp [hd])]
  simp [hd, tl, hi]

theorem idxA_arr {a : Addr} {n i : Nat} (hi : i < n) : idxA (some a) n 1 (i : Int) = some (a.add i) := by
  unfold idxA
  rw [if_pos (by omega)]
  simp

section
variable {w : World}

theorem fill_inner {i : Nat} {p : Option Addr} : ∃ s' w', loopS (g55_l4_b p (i : Int)) (IntKind.u32.wrap (i : Int), 0) w = some (.exit 2, s', w') ∧ w' = w ∧ s'.1 = ((stepN 8 (BitVec.ofInt 32 (i : Int))).toNat : Nat) := by
  have h0 : IntKind.u32.wrap (i : Int) = (((BitVec.ofInt 32 (i : Int)).toNat : Nat) : Int) := by
    have e : IntKind.u32.wrap (i : Int) = (i : Int) % 4294967296 := by simp [IntKind.wrap, IntKind.bits, IntKind.signed]
    rw [e, BitVec.ofInt_natCast, BitVec.toNat_ofNat]
    omega
  generalize BitVec.ofInt 32 (i : Int) = r0 at h0
  obtain ⟨e, t, w', h1, rfl, rfl, h2⟩ := loopS_rule (b := g55_l4_b p (i : Int)) (I := fun k s w' => w' = w ∧ s = (((stepN k r0).toNat : Int), (k : Int))) (Q := fun e s w' => e = .exit 2 ∧ w' = w ∧ s.1 = ((stepN 8 r0).toNat : Nat)) (n := 8)
    (fun k s w1 hk ⟨hw, hs⟩ => by
      subst hw hs
      refine ⟨.normal, (((stepN (k + 1) r0).toNat : Int), ((k + 1 : Nat) : Int)), w1, ?_, .inl ⟨rfl, rfl, rfl⟩⟩
      have hc : (k : Int) < 8 := by omega
      have hs := wrap_succ (n := k) (by omega)
      unfold g55_l4_b
      rw [stepN_succ']
      generalize stepN k r0 = r
      simp only [hc, ofInt_toNat, bit0, fdiv1, hs, Option.bind_some, asP_pointer, asB_bool, asI_int, asS_string, asSl_slice, asM_map, asTup0, asTup1, asTup2, asTup3, asTup4, asTup5, getD0, getD1, getD2, getD3, getD4, Bool.not_true, Bool.not_false, Bool.false_eq_true, Bool.true_eq_false, ↓reduceIte, decide_true, decide_false, Option.isNone_some, Option.isNone_none, Option.isSome_some, Option.isSome_none, beq_self_eq_true, bne_self_eq_false, Bool.and_true, Bool.true_and, Bool.and_false, Bool.false_and, not_true_eq_false, not_false_eq_true]
      have e : BitVec.ofInt 32 2197175160 = poly := by decide
      rw [e, wrap32]
      unfold Go.Crc.step
      cases r.getLsbD 0
      · simp only [Option.bind_some, asP_pointer, asB_bool, asI_int, asS_string, asSl_slice, asM_map, asTup0, asTup1, asTup2, asTup3, asTup4, asTup5, getD0, getD1, getD2, getD3, getD4, Bool.not_true, Bool.not_false, Bool.false_eq_true, Bool.true_eq_false, ↓reduceIte, decide_true, decide_false, Option.isNone_some, Option.isNone_none, Option.isSome_some, Option.isSome_none, beq_self_eq_true, bne_self_eq_false, Bool.and_true, Bool.true_and, Bool.and_false, Bool.false_and, not_true_eq_false, not_false_eq_true]
        have : ((0 : Int) == 1) = false := by decide
        simp only [this, Option.bind_some, asP_pointer, asB_bool, asI_int, asS_string, asSl_slice, asM_map, asTup0, asTup1, asTup2, asTup3, asTup4, asTup5, getD0, getD1, getD2, getD3, getD4, Bool.not_true, Bool.not_false, Bool.false_eq_true, Bool.true_eq_false, ↓reduceIte, decide_true, decide_false, Option.isNone_some, Option.isNone_none, Option.isSome_some, Option.isSome_none, beq_self_eq_true, bne_self_eq_false, Bool.and_true, Bool.true_and, Bool.and_false, Bool.false_and, not_true_eq_false, not_false_eq_true]
      · simp only [Option.bind_some, asP_pointer, asB_bool, asI_int, asS_string, asSl_slice, asM_map, asTup0, asTup1, asTup2, asTup3, asTup4, asTup5, getD0, getD1, getD2, getD3, getD4, Bool.not_true, Bool.not_false, Bool.false_eq_true, Bool.true_eq_false, ↓reduceIte, decide_true, decide_false, Option.isNone_some, Option.isNone_none, Option.isSome_some, Option.isSome_none, beq_self_eq_true, bne_self_eq_false, Bool.and_true, Bool.true_and, Bool.and_false, Bool.false_and, not_true_eq_false, not_false_eq_true]
        )
    (fun s w1 ⟨hw, hs⟩ => by
      subst hw hs
      refine ⟨.exit 2, (((stepN 8 r0).toNat : Int), ((8 : Nat) : Int)), w1, ?_, by simp, rfl, rfl, rfl⟩
      unfold g55_l4_b
      have hc : ¬ ((8 : Nat) : Int) < 8 := by decide
      simp only [hc, Option.bind_some, asP_pointer, asB_bool, asI_int, asS_string, asSl_slice, asM_map, asTup0, asTup1, asTup2, asTup3, asTup4, asTup5, getD0, getD1, getD2, getD3, getD4, Bool.not_true, Bool.not_false, Bool.false_eq_true, Bool.true_eq_false, ↓reduceIte, decide_true, decide_false, Option.isNone_some, Option.isNone_none, Option.isSome_some, Option.isSome_none, beq_self_eq_true, bne_self_eq_false, Bool.and_true, Bool.true_and, Bool.and_false, Bool.false_and, not_true_eq_false, not_false_eq_true])
    (Nat.zero_le _) (k := 0) (s := (((stepN 0 r0).toNat : Int), ((0 : Nat) : Int))) (w := w) ⟨rfl, rfl⟩
  refine ⟨t, w', ?_, rfl, h2⟩
  rw [h0]; exact h1

theorem fill16 {b : Nat} {d m s : Int} (h : Blk w b (hd d m s ++ tl 0) 109) :
    ∃ w', callF Try.prog 55 #[.pointer (some ⟨b, 0, none⟩)] w = some (.tuple #[], w') ∧ Blk w' b (hd d m s ++ tl 256) 109 ∧ Fr [b] w w' := by
  obtain ⟨t, w', h1, h2, h3, h4⟩ := loopS_count (b := g55_l1_b (some ⟨b, 0, none⟩)) (I := fun i st w' => st = (i : Int) ∧ Blk w' b (hd d m s ++ tl i) 109 ∧ Fr [b] w w') (n := 256)
    (fun i st w1 hi ⟨hs, hb, hf⟩ => by
      subst hs
      obtain ⟨t, w2, e1, hw2, e2⟩ := fill_inner (w := w1) (i := i) (p := some ⟨b, 0, none⟩)
      rw [hw2] at e1
      have hset := hb.set (3 + i) (.int .u32 (tab i))
      rw [tl_set d m s hi] at hset
      refine ⟨((i + 1 : Nat) : Int), w1.setCell ⟨b, 3 + i, none⟩ (.int .u32 (tab i)), ?_, rfl, hset, hf.trans Fr.setCell⟩
      have hc : (i : Int) < 256 := by omega
      have hs := wrap_succ (n := i) (by omega)
      have hix := idxA_arr (a := ⟨b, 0 + 3, none⟩) hi
      have hst : st1 w1 ⟨b, 3 + i, none⟩ (.int .u32 (tab i)) = some (w1.setCell ⟨b, 3 + i, none⟩ (.int .u32 (tab i))) := hb.st1 (by simp [hd, tl]; omega) rfl
      have ht : t.1 = tab i := by rw [e2]; simp [tab]
      rw [addr_add, Nat.zero_add] at hix
      unfold g55_l1_b
      simp only [hc, g55_l4_x2_of e1, Option.bind_some, asP_pointer, asB_bool, asI_int, asS_string, asSl_slice, asM_map, asTup0, asTup1, asTup2, asTup3, asTup4, asTup5, getD0, getD1, getD2, getD3, getD4, Bool.not_true, Bool.not_false, Bool.false_eq_true, Bool.true_eq_false, ↓reduceIte, decide_true, decide_false, Option.isNone_some, Option.isNone_none, Option.isSome_some, Option.isSome_none, beq_self_eq_true, bne_self_eq_false, Bool.and_true, Bool.true_and, Bool.and_false, Bool.false_and, not_true_eq_false, not_false_eq_true]
      unfold g55_l4_x2
      simp only [addr_add, Nat.zero_add, hix, ht, hst, hs, Option.bind_some, asP_pointer, asB_bool, asI_int, asS_string, asSl_slice, asM_map, asTup0, asTup1, asTup2, asTup3, asTup4, asTup5, getD0, getD1, getD2, getD3, getD4, Bool.not_true, Bool.not_false, Bool.false_eq_true, Bool.true_eq_false, ↓reduceIte, decide_true, decide_false, Option.isNone_some, Option.isNone_none, Option.isSome_some, Option.isSome_none, beq_self_eq_true, bne_self_eq_false, Bool.and_true, Bool.true_and, Bool.and_false, Bool.false_and, not_true_eq_false, not_false_eq_true])
    (fun st w1 ⟨hs, _, _⟩ => by
      subst hs
      have hc : ¬ ((256 : Nat) : Int) < 256 := by decide
      unfold g55_l1_b
      simp only [hc, Option.bind_some, asP_pointer, asB_bool, asI_int, asS_string, asSl_slice, asM_map, asTup0, asTup1, asTup2, asTup3, asTup4, asTup5, getD0, getD1, getD2, getD3, getD4, Bool.not_true, Bool.not_false, Bool.false_eq_true, Bool.true_eq_false, ↓reduceIte, decide_true, decide_false, Option.isNone_some, Option.isNone_none, Option.isSome_some, Option.isSome_none, beq_self_eq_true, bne_self_eq_false, Bool.and_true, Bool.true_and, Bool.and_false, Bool.false_and, not_true_eq_false, not_false_eq_true]
      )
    (Nat.zero_le _) (k := 0) (s := ((0 : Nat) : Int)) (w := w) ⟨rfl, h, Fr.refl _ _⟩
  refine ⟨w', g55_call ?_, h3, h4⟩
  have h1' := g55_l1_x0_of h1
  simp only [Int.natCast_zero] at h1'
  unfold g55
  simp only [h1', g55_l1_x0, Option.bind_some, asP_pointer, asB_bool, asI_int, asS_string, asSl_slice, asM_map, asTup0, asTup1, asTup2, asTup3, asTup4, asTup5, getD0, getD1, getD2, getD3, getD4, Bool.not_true, Bool.not_false, Bool.false_eq_true, Bool.true_eq_false, ↓reduceIte, decide_true, decide_false, Option.isNone_some, Option.isNone_none, Option.isSome_some, Option.isSome_none, beq_self_eq_true, bne_self_eq_false, Bool.and_true, Bool.true_and, Bool.and_false, Bool.false_and, not_true_eq_false, not_false_eq_true]
end
end Go.Proofs.Ytnflklkjjjlpaaa

/-
  WalFrameCrcD: lemmas on what Go functions of this seat come to (for whatever arguments, as each says). No condition but those that stand in each lemma.
-/
namespace Go.Proofs.Ytnflklkjjjlpaaa
open Go Go.Ev Go.Crc
set_option maxRecDepth 100000
set_option linter.unusedVariables false
set_option linter.unusedSimpArgs false
set_option linter.unusedSimpArgs false

/-- the slice s reads as these bytes -/
abbrev Sl8 (w : World) (s : Option Addr × Nat × Nat) (zs : List Int) : Prop := SlI .u8 w s zs

def Zs (zs : List Int) : Prop := ∀ z ∈ zs, 0 ≤ z ∧ z < 256

theorem byte_bv {z : Int} (h : 0 ≤ z ∧ z < 256) : z = (((BitVec.ofInt 8 z).toNat : Nat) : Int) := by
  rw [BitVec.toNat_ofInt]; omega
theorem w32_bv {z : Int} (h : 0 ≤ z ∧ z < 4294967296) : z = (((BitVec.ofInt 32 z).toNat : Nat) : Int) := by
  rw [BitVec.toNat_ofInt]; omega

/-- a table, used or not -/
def Tbl (w : World) (b : Nat) : Prop := Blk w b (hd 0 0 0 ++ tl 0) 109 ∨ Blk w b (hd 1 0 0 ++ tl 256) 109
def TblD (w : World) (b : Nat) : Prop := Blk w b (hd 1 0 0 ++ tl 256) 109

section
variable {w : World}
theorem Tbl.lt {b : Nat} (h : Tbl w b) : b < w.heap.size := h.elim Blk.lt Blk.lt
theorem Tbl.fr {b : Nat} {S : List Nat} {w' : World} (h : Tbl w b) (hf : Fr S w w') (hb : b ∉ S) : Tbl w' b := h.imp (·.fr hf hb) (·.fr hf hb)

theorem load19 {a : Addr} {n : Int} (h : w.cell? a = some (.int .u32 n)) : callF Try.prog 58 #[.pointer (some a)] w = some (.int .u32 n, w) := by
  unfold callF
  rw [run_call_load Try.func58 (by kernel_rfl) (by kernel_rfl) (by kernel_rfl) .u32 (by kernel_rfl) h]
  rfl
theorem bload17 {a : Addr} {n : Int} (h : w.cell? a = some (.int .u32 n)) : callF Try.prog 56 #[.pointer (some a)] w = some (.bool (n != 0), w) :=
  g56_call (by unfold g56; simp only [load19 h, Option.bind_some, asP_pointer, asB_bool, asI_int, asS_string, asSl_slice, asM_map, asTup0, asTup1, asTup2, asTup3, asTup4, asTup5, getD0, getD1, getD2, getD3, getD4, Bool.not_true, Bool.not_false, Bool.false_eq_true, Bool.true_eq_false, ↓reduceIte, decide_true, decide_false, Option.isNone_some, Option.isNone_none, Option.isSome_some, Option.isSome_none, beq_self_eq_true, bne_self_eq_false, Bool.and_true, Bool.true_and, Bool.and_false, Bool.false_and, not_true_eq_false, not_false_eq_true])

theorem do15 {b : Nat} (h : Tbl w b) : ∃ w', callF Try.prog 54 #[.pointer (some ⟨b, 0, none⟩), .func (.func 55) #[.pointer (some ⟨b, 0, none⟩)] #[]] w = some (.tuple #[], w') ∧ TblD w' b ∧ Fr [b] w w' := by
  rcases h with h | h
  · have c0 : w.cell? ⟨b, 0, none⟩ = some (.int .u32 0) := h.cell 0
    have c1 : w.cell? ⟨b, 1, none⟩ = some (.int .i32 0) := h.cell 1
    have h1 : Blk (w.setCell ⟨b, 1, none⟩ (.int .i32 1)) b (hd 0 1 0 ++ tl 0) 109 := h.set 1 (.int .i32 1)
    have f1 : Fr [b] w (w.setCell ⟨b, 1, none⟩ (.int .i32 1)) := Fr.setCell
    obtain ⟨w2, e2, h2, f2⟩ := fill16 h1
    have hS := slow_first b 0 ⟨b, 0, none⟩ w w2 c0 c1 (h.frozen 0) (h.frozen 1) (calls_of_callF Try.call55 e2) (h2.cell 0) (h2.cell 1) (h2.frozen 0) (h2.frozen 1)
    simp only [Nat.zero_add] at hS
    have eS := callF_of_calls Try.call57 (by kernel_rfl) hS
    have h3 : Blk (w2.drew.setCell ⟨b, 0, none⟩ (.int .u32 1)) b (hd 1 1 0 ++ tl 256) 109 := h2.drew.set 0 (.int .u32 1)
    have h4 : Blk ((w2.drew.setCell ⟨b, 0, none⟩ (.int .u32 1)).setCell ⟨b, 1, none⟩ (.int .i32 0)) b (hd 1 0 0 ++ tl 256) 109 := h3.set 1 (.int .i32 0)
    have f3 : Fr [b] w2 ((w2.drew.setCell ⟨b, 0, none⟩ (.int .u32 1)).setCell ⟨b, 1, none⟩ (.int .i32 0)) := ((Fr.drew _ _).trans Fr.setCell).trans Fr.setCell
    refine ⟨_, g54_call ?_, h4, (f1.trans f2).trans f3⟩
    have e17 := bload17 c0
    unfold g54
    simp only [e17, eS, Option.bind_some, asP_pointer, asB_bool, asI_int, asS_string, asSl_slice, asM_map, asTup0, asTup1, asTup2, asTup3, asTup4, asTup5, getD0, getD1, getD2, getD3, getD4, Bool.not_true, Bool.not_false, Bool.false_eq_true, Bool.true_eq_false, ↓reduceIte, decide_true, decide_false, Option.isNone_some, Option.isNone_none, Option.isSome_some, Option.isSome_none, beq_self_eq_true, bne_self_eq_false, Bool.and_true, Bool.true_and, Bool.and_false, Bool.false_and, not_true_eq_false, not_false_eq_true]
  · have c0 : w.cell? ⟨b, 0, none⟩ = some (.int .u32 1) := h.cell 0
    refine ⟨w, g54_call ?_, h, Fr.refl _ _⟩
    have e17 := bload17 c0
    have h10 : ((1 : Int) != 0) = true := by decide
    unfold g54
    simp only [e17, h10, Option.bind_some, asP_pointer, asB_bool, asI_int, asS_string, asSl_slice, asM_map, asTup0, asTup1, asTup2, asTup3, asTup4, asTup5, getD0, getD1, getD2, getD3, getD4, Bool.not_true, Bool.not_false, Bool.false_eq_true, Bool.true_eq_false, ↓reduceIte, decide_true, decide_false, Option.isNone_some, Option.isNone_none, Option.isSome_some, Option.isSome_none, beq_self_eq_true, bne_self_eq_false, Bool.and_true, Bool.true_and, Bool.and_false, Bool.false_and, not_true_eq_false, not_false_eq_true]

theorem run_step {c : BitVec 32} {zs : List Int} {k : Nat} (hk : k < zs.length) : run c (zs.take (k + 1)) = upd (run c (zs.take k)) (BitVec.ofInt 8 zs[k]) := by
  unfold run
  rw [List.take_succ_eq_append_getElem hk, List.foldl_append]
  rfl

theorem more14 {b : Nat} {s : Int} {u : Option Addr × Nat × Nat} {zs : List Int} (h : Tbl w b) (hs : 0 ≤ s ∧ s < 4294967296) (hu : Sl8 w u zs) (hz : Zs zs) (hd : 0 < zs.length → b ∉ blkOf u) (hl : zs.length < 9223372036854775808) :
    ∃ w', callF Try.prog 51 #[.pointer (some ⟨b, 0, none⟩), .int .u32 s, .slice u.1 u.2.1 u.2.2] w = some (.int .u32 (more s zs), w') ∧ TblD w' b ∧ Fr [b] w w' := by
  obtain ⟨w1, e1, h1, f1⟩ := do15 h
  have hu1 : Sl8 w1 u zs := hu.fr3 f1 (by intro h0 x hx hm; simp at hm; subst hm; exact hd (by rw [hu.1]; exact h0) hx)
  obtain ⟨t, w', e2, rfl, e3⟩ := loopS_count (b := g51_l4_b u (some ⟨b, 0, none⟩)) (I := fun k st w' => w' = w1 ∧ st = (((run (~~~ (BitVec.ofInt 32 s)) (zs.take k)).toNat : Int), (k : Int))) (n := zs.length)
    (fun k st w2 hk ⟨hw, hst⟩ => by
      subst hw hst
      refine ⟨(((run (~~~ (BitVec.ofInt 32 s)) (zs.take (k + 1))).toNat : Int), ((k + 1 : Nat) : Int)), w2, ?_, rfl, rfl⟩
      obtain ⟨a, g1, g2⟩ := hu1.get hk
      have hzk := hz zs[k] (List.getElem_mem hk)
      have hc : (k : Int) < (u.2.1 : Int) := by have := hu1.1; omega
      have hs := wrap_succ (n := k) (by omega)
      rw [run_step hk]
      generalize run (~~~ (BitVec.ofInt 32 s)) (zs.take k) = c
      have hbz := byte_bv hzk
      generalize hx : BitVec.ofInt 8 zs[k] = x at hbz
      rw [hbz] at g2
      have hlt : (c.setWidth 8 ^^^ x).toNat < 256 := (c.setWidth 8 ^^^ x).isLt
      have hix := idxA_arr (a := ⟨b, 3, none⟩) hlt
      have hcell : w2.cell? ⟨b, 3 + (c.setWidth 8 ^^^ x).toNat, none⟩ = some (.int .u32 (tab (c.setWidth 8 ^^^ x).toNat)) := by
        rw [Blk.cell h1]; exact tl_get 1 0 0 hlt
      rw [addr_add] at hix
      unfold g51_l4_b
      simp only [hc, g1, g2, addr_add, Nat.zero_add, wrap8_32, ofInt_toNat, wrap8, hix, hcell, fdiv8, hs, Option.bind_some, asP_pointer, asB_bool, asI_int, asS_string, asSl_slice, asM_map, asTup0, asTup1, asTup2, asTup3, asTup4, asTup5, getD0, getD1, getD2, getD3, getD4, Bool.not_true, Bool.not_false, Bool.false_eq_true, Bool.true_eq_false, ↓reduceIte, decide_true, decide_false, Option.isNone_some, Option.isNone_none, Option.isSome_some, Option.isSome_none, beq_self_eq_true, bne_self_eq_false, Bool.and_true, Bool.true_and, Bool.and_false, Bool.false_and, not_true_eq_false, not_false_eq_true]
      have ht : BitVec.ofInt 32 (tab (c.setWidth 8 ^^^ x).toNat) = stepN 8 ((c.setWidth 8 ^^^ x).setWidth 32) := by
        unfold tab
        rw [ofInt_toNat, BitVec.ofNat_toNat]
      rw [ht, wrap32, upd_tab])
    (fun st w2 ⟨hw, hst⟩ => by
      subst hw hst
      have hc : ¬ ((zs.length : Nat) : Int) < (u.2.1 : Int) := by have := hu1.1; omega
      unfold g51_l4_b
      simp only [hc, Option.bind_some, asP_pointer, asB_bool, asI_int, asS_string, asSl_slice, asM_map, asTup0, asTup1, asTup2, asTup3, asTup4, asTup5, getD0, getD1, getD2, getD3, getD4, Bool.not_true, Bool.not_false, Bool.false_eq_true, Bool.true_eq_false, ↓reduceIte, decide_true, decide_false, Option.isNone_some, Option.isNone_none, Option.isSome_some, Option.isSome_none, beq_self_eq_true, bne_self_eq_false, Bool.and_true, Bool.true_and, Bool.and_false, Bool.false_and, not_true_eq_false, not_false_eq_true])
    (Nat.zero_le _) (k := 0) (s := (((run (~~~ (BitVec.ofInt 32 s)) (zs.take 0)).toNat : Int), ((0 : Nat) : Int))) (w := w1) ⟨rfl, rfl⟩
  refine ⟨w', g51_call ?_, h1, f1⟩
  have e4 := g51_l4_x0_of e2
  simp only [List.take_zero, run, List.foldl_nil, Int.natCast_zero] at e4
  have e5 : IntKind.u32.wrap (((BitVec.ofInt 32 IntKind.u32.max ^^^ BitVec.ofInt 32 s).toNat : Nat) : Int) = (((~~~ (BitVec.ofInt 32 s)).toNat : Nat) : Int) := by rw [ones32, wrap32]
  unfold g51
  simp only [e1, e5, e4, Option.bind_some, asP_pointer, asB_bool, asI_int, asS_string, asSl_slice, asM_map, asTup0, asTup1, asTup2, asTup3, asTup4, asTup5, getD0, getD1, getD2, getD3, getD4, Bool.not_true, Bool.not_false, Bool.false_eq_true, Bool.true_eq_false, ↓reduceIte, decide_true, decide_false, Option.isNone_some, Option.isNone_none, Option.isSome_some, Option.isSome_none, beq_self_eq_true, bne_self_eq_false, Bool.and_true, Bool.true_and, Bool.and_false, Bool.false_and, not_true_eq_false, not_false_eq_true]
  unfold g51_l4_x0
  rw [e3]
  simp only [List.take_length, ofInt_toNat, ones32, wrap32]
  rfl

theorem sum13 {b : Nat} {u : Option Addr × Nat × Nat} {zs : List Int} (h : Tbl w b) (hu : Sl8 w u zs) (hz : Zs zs) (hd : 0 < zs.length → b ∉ blkOf u) (hl : zs.length < 9223372036854775808) :
    ∃ w', callF Try.prog 45 #[.pointer (some ⟨b, 0, none⟩), .slice u.1 u.2.1 u.2.2] w = some (.int .u32 (more 0 zs), w') ∧ TblD w' b ∧ Fr [b] w w' := by
  obtain ⟨w1, e1, h1, f1⟩ := more14 h (s := 0) (by decide) hu hz hd hl
  exact ⟨w1, g45_call (by unfold g45; simp only [e1, Option.bind_some, asP_pointer, asB_bool, asI_int, asS_string, asSl_slice, asM_map, asTup0, asTup1, asTup2, asTup3, asTup4, asTup5, getD0, getD1, getD2, getD3, getD4, Bool.not_true, Bool.not_false, Bool.false_eq_true, Bool.true_eq_false, ↓reduceIte, decide_true, decide_false, Option.isNone_some, Option.isNone_none, Option.isSome_some, Option.isSome_none, beq_self_eq_true, bne_self_eq_false, Bool.and_true, Bool.true_and, Bool.and_false, Bool.false_and, not_true_eq_false, not_false_eq_true]), h1, f1⟩
end
end Go.Proofs.Ytnflklkjjjlpaaa

/-
  WalFrameCrcE: lemmas on what Go functions of this seat come to (for whatever arguments, as each says). No condition but those that stand in each lemma.
-/
namespace Go.Proofs.Ytnflklkjjjlpaaa
open Go Go.Ev Go.Crc
set_option maxRecDepth 100000
set_option linter.unusedVariables false
set_option linter.unusedSimpArgs false
set_option linter.unusedSimpArgs false
section
variable {w : World}

theorem ref_inner {u : Option Addr × Nat × Nat} {zs : List Int} (hu : Sl8 w u zs) (hz : Zs zs) {k : Nat} (hk : k < zs.length) (r0 : BitVec 32) (i0 : Int × Int) (hi : i0 = (((r0.toNat : Nat) : Int), (k : Int))) :
    ∃ s' w', loopS (g34_l5_b u i0) (((r0.toNat : Nat) : Int), 0) w = some (.exit 2, s', w') ∧ w' = w ∧ s'.1 = (((upd r0 (BitVec.ofInt 8 zs[k])).toNat : Nat) : Int) := by
  subst hi
  obtain ⟨a, g1, g2⟩ := hu.get hk
  have hbz := byte_bv (hz zs[k] (List.getElem_mem hk))
  generalize hx : BitVec.ofInt 8 zs[k] = x at hbz
  rw [hbz] at g2
  obtain ⟨e, t, w', h1, rfl, rfl, h2⟩ := loopS_rule (b := g34_l5_b u (((r0.toNat : Nat) : Int), (k : Int)))
    (I := fun j s w' => w' = w ∧ ∃ r : BitVec 32, r ^^^ (x.setWidth 32) >>> j = stepN j (r0 ^^^ x.setWidth 32) ∧ s = (((r.toNat : Nat) : Int), (j : Int)))
    (Q := fun e s w' => e = .exit 2 ∧ w' = w ∧ s.1 = (((upd r0 x).toNat : Nat) : Int)) (n := 8)
    (fun j s w1 hj ⟨hw, r, hr, hs⟩ => by
      subst hw hs
      refine ⟨.normal, (((bitStep r (x.getLsbD j)).toNat : Int), ((j + 1 : Nat) : Int)), w1, ?_, .inl ⟨rfl, rfl, bitStep r (x.getLsbD j), ?_, rfl⟩⟩
      · have hc : (j : Int) < 8 := by omega
        have hs := wrap_succ (n := j) (by omega)
        have hw : IntKind.u64.wrap (j : Int) = (j : Int) := wrap_u64 (by omega) (by omega)
        have hn : ¬ (j : Int) < 0 := by omega
        have hm : min (Int.toNat (j : Int)) 8 = j := by simp; omega
        unfold g34_l5_b
        simp only [hc, g1, g2, hw, hn, hm, inbit, Option.bind_some, asP_pointer, asB_bool, asI_int, asS_string, asSl_slice, asM_map, asTup0, asTup1, asTup2, asTup3, asTup4, asTup5, getD0, getD1, getD2, getD3, getD4, Bool.not_true, Bool.not_false, Bool.false_eq_true, Bool.true_eq_false, ↓reduceIte, decide_true, decide_false, Option.isNone_some, Option.isNone_none, Option.isSome_some, Option.isSome_none, beq_self_eq_true, bne_self_eq_false, Bool.and_true, Bool.true_and, Bool.and_false, Bool.false_and, not_true_eq_false, not_false_eq_true]
        simp only [ofInt_toNat, bit0, outbit, fdiv1, hs, Option.bind_some, asP_pointer, asB_bool, asI_int, asS_string, asSl_slice, asM_map, asTup0, asTup1, asTup2, asTup3, asTup4, asTup5, getD0, getD1, getD2, getD3, getD4, Bool.not_true, Bool.not_false, Bool.false_eq_true, Bool.true_eq_false, ↓reduceIte, decide_true, decide_false, Option.isNone_some, Option.isNone_none, Option.isSome_some, Option.isSome_none, beq_self_eq_true, bne_self_eq_false, Bool.and_true, Bool.true_and, Bool.and_false, Bool.false_and, not_true_eq_false, not_false_eq_true]
        have e : BitVec.ofInt 32 2197175160 = poly := by decide
        rw [e, wrap32]
        unfold bitStep
        generalize (r.getLsbD 0 ^^ x.getLsbD j) = bo
        cases bo
        · simp only [Option.bind_some, asP_pointer, asB_bool, asI_int, asS_string, asSl_slice, asM_map, asTup0, asTup1, asTup2, asTup3, asTup4, asTup5, getD0, getD1, getD2, getD3, getD4, Bool.not_true, Bool.not_false, Bool.false_eq_true, Bool.true_eq_false, ↓reduceIte, decide_true, decide_false, Option.isNone_some, Option.isNone_none, Option.isSome_some, Option.isSome_none, beq_self_eq_true, bne_self_eq_false, Bool.and_true, Bool.true_and, Bool.and_false, Bool.false_and, not_true_eq_false, not_false_eq_true]
        · simp only [Option.bind_some, asP_pointer, asB_bool, asI_int, asS_string, asSl_slice, asM_map, asTup0, asTup1, asTup2, asTup3, asTup4, asTup5, getD0, getD1, getD2, getD3, getD4, Bool.not_true, Bool.not_false, Bool.false_eq_true, Bool.true_eq_false, ↓reduceIte, decide_true, decide_false, Option.isNone_some, Option.isNone_none, Option.isSome_some, Option.isSome_none, beq_self_eq_true, bne_self_eq_false, Bool.and_true, Bool.true_and, Bool.and_false, Bool.false_and, not_true_eq_false, not_false_eq_true]
      · rw [stepN_succ', ← hr, ← bitStep_eq]
        have e1 : ((x.setWidth 32) >>> j).getLsbD 0 = x.getLsbD j := by
          simp only [BitVec.getLsbD_setWidth, BitVec.getLsbD_ushiftRight]
          simp
          exact fun _ => by omega
        have e3 : ((x.setWidth 32) >>> j) >>> 1 = (x.setWidth 32) >>> (j + 1) := by
          apply BitVec.eq_of_getLsbD_eq
          intro i hi
          simp only [BitVec.getLsbD_ushiftRight]
          congr 1; omega
        rw [e1, e3])
    (fun s w1 ⟨hw, r, hr, hs⟩ => by
      subst hw hs
      refine ⟨.exit 2, (((r.toNat : Nat) : Int), ((8 : Nat) : Int)), w1, ?_, by simp, rfl, rfl, ?_⟩
      · unfold g34_l5_b
        have hc : ¬ ((8 : Nat) : Int) < 8 := by decide
        simp only [hc, Option.bind_some, asP_pointer, asB_bool, asI_int, asS_string, asSl_slice, asM_map, asTup0, asTup1, asTup2, asTup3, asTup4, asTup5, getD0, getD1, getD2, getD3, getD4, Bool.not_true, Bool.not_false, Bool.false_eq_true, Bool.true_eq_false, ↓reduceIte, decide_true, decide_false, Option.isNone_some, Option.isNone_none, Option.isSome_some, Option.isSome_none, beq_self_eq_true, bne_self_eq_false, Bool.and_true, Bool.true_and, Bool.and_false, Bool.false_and, not_true_eq_false, not_false_eq_true]
      · have e0 : (x.setWidth 32) >>> 8 = (0#32 : BitVec 32) := by
          apply BitVec.eq_of_getLsbD_eq
          intro i hi
          simp only [BitVec.getLsbD_ushiftRight, BitVec.getLsbD_setWidth]
          rw [BitVec.getLsbD_of_ge x (8 + i) (by omega)]
          simp
        rw [e0, BitVec.xor_zero] at hr
        rw [hr]; rfl)
    (Nat.zero_le _) (k := 0) (s := (((r0.toNat : Nat) : Int), ((0 : Nat) : Int))) (w := w) ⟨rfl, r0, rfl, rfl⟩
  exact ⟨t, w', h1, rfl, h2⟩

theorem ref12 {s : Int} {u : Option Addr × Nat × Nat} {zs : List Int} (hs : 0 ≤ s ∧ s < 4294967296) (hu : Sl8 w u zs) (hz : Zs zs) (hl : zs.length < 9223372036854775808) :
    callF Try.prog 34 #[.int .u32 s, .slice u.1 u.2.1 u.2.2] w = some (.int .u32 (more s zs), w) := by
  obtain ⟨t, w', e2, rfl, e3⟩ := loopS_count (b := g34_l1_b u) (I := fun k st w' => w' = w ∧ st = (((run (~~~ (BitVec.ofInt 32 s)) (zs.take k)).toNat : Int), (k : Int))) (n := zs.length)
    (fun k st w2 hk ⟨hw, hst⟩ => by
      subst hw hst
      refine ⟨(((run (~~~ (BitVec.ofInt 32 s)) (zs.take (k + 1))).toNat : Int), ((k + 1 : Nat) : Int)), w2, ?_, rfl, rfl⟩
      have hc : (k : Int) < (u.2.1 : Int) := by have := hu.1; omega
      have hs := wrap_succ (n := k) (by omega)
      rw [run_step hk]
      generalize run (~~~ (BitVec.ofInt 32 s)) (zs.take k) = c
      obtain ⟨t, w3, e4, hw3, e5⟩ := ref_inner hu hz hk c _ rfl
      rw [hw3] at e4
      have e6 := g34_l5_x2_of e4
      unfold g34_l1_b
      simp only [hc, e6, Option.bind_some, asP_pointer, asB_bool, asI_int, asS_string, asSl_slice, asM_map, asTup0, asTup1, asTup2, asTup3, asTup4, asTup5, getD0, getD1, getD2, getD3, getD4, Bool.not_true, Bool.not_false, Bool.false_eq_true, Bool.true_eq_false, ↓reduceIte, decide_true, decide_false, Option.isNone_some, Option.isNone_none, Option.isSome_some, Option.isSome_none, beq_self_eq_true, bne_self_eq_false, Bool.and_true, Bool.true_and, Bool.and_false, Bool.false_and, not_true_eq_false, not_false_eq_true]
      unfold g34_l5_x2
      simp only [e5, hs, Option.bind_some, asP_pointer, asB_bool, asI_int, asS_string, asSl_slice, asM_map, asTup0, asTup1, asTup2, asTup3, asTup4, asTup5, getD0, getD1, getD2, getD3, getD4, Bool.not_true, Bool.not_false, Bool.false_eq_true, Bool.true_eq_false, ↓reduceIte, decide_true, decide_false, Option.isNone_some, Option.isNone_none, Option.isSome_some, Option.isSome_none, beq_self_eq_true, bne_self_eq_false, Bool.and_true, Bool.true_and, Bool.and_false, Bool.false_and, not_true_eq_false, not_false_eq_true])
    (fun st w2 ⟨hw, hst⟩ => by
      subst hw hst
      have hc : ¬ ((zs.length : Nat) : Int) < (u.2.1 : Int) := by have := hu.1; omega
      unfold g34_l1_b
      simp only [hc, Option.bind_some, asP_pointer, asB_bool, asI_int, asS_string, asSl_slice, asM_map, asTup0, asTup1, asTup2, asTup3, asTup4, asTup5, getD0, getD1, getD2, getD3, getD4, Bool.not_true, Bool.not_false, Bool.false_eq_true, Bool.true_eq_false, ↓reduceIte, decide_true, decide_false, Option.isNone_some, Option.isNone_none, Option.isSome_some, Option.isSome_none, beq_self_eq_true, bne_self_eq_false, Bool.and_true, Bool.true_and, Bool.and_false, Bool.false_and, not_true_eq_false, not_false_eq_true])
    (Nat.zero_le _) (k := 0) (s := (((run (~~~ (BitVec.ofInt 32 s)) (zs.take 0)).toNat : Int), ((0 : Nat) : Int))) (w := w) ⟨rfl, rfl⟩
  refine g34_call ?_
  have e4 := g34_l1_x0_of e2
  simp only [List.take_zero, run, List.foldl_nil, Int.natCast_zero] at e4
  have e5 : IntKind.u32.wrap (((BitVec.ofInt 32 IntKind.u32.max ^^^ BitVec.ofInt 32 s).toNat : Nat) : Int) = (((~~~ (BitVec.ofInt 32 s)).toNat : Nat) : Int) := by rw [ones32, wrap32]
  unfold g34
  rw [e5, e4]
  unfold g34_l1_x0
  rw [e3]
  simp only [List.take_length, ofInt_toNat, ones32, wrap32]
  rfl

theorem new9 : ∃ w', callF Try.prog 41 #[] w = some (.pointer (some ⟨w.heap.size, 0, none⟩), w') ∧ Tbl w' w.heap.size ∧ Fr [] w w' := by
  have hb := Blk.new w (hd 0 0 0 ++ tl 0) 109
  refine ⟨w.alloc (.cells (hd 0 0 0 ++ tl 0).toArray 109), g41_call ?_, .inl hb, Fr.alloc _⟩
  kernel_rfl

end
end Go.Proofs.Ytnflklkjjjlpaaa

/-
  WalFrameCrcX: lemmas on what Go functions of this seat come to (for whatever arguments, as each says). No condition but those that stand in each lemma.
-/
namespace Go.Proofs.Ytnflklkjjjlpaaa
open Go Go.Ev Go.Crc
set_option maxRecDepth 100000
set_option linter.unusedVariables false
set_option linter.unusedSimpArgs false
set_option linter.unusedSimpArgs false
theorem u32_range {n : Int} (h : IntKind.u32.min ≤ n ∧ n ≤ IntKind.u32.max) : 0 ≤ n ∧ n < 4294967296 := by
  have h1 : IntKind.u32.min = 0 := by decide
  have h2 : IntKind.u32.max = 4294967295 := by decide
  rw [h1, h2] at h; omega

theorem bulk_len {x : (Ty.slice (.int .u8)).Val} {n : Nat} (h : (Ty.slice (.int .u8)).bulk x ≤ n) : x.2.length < n := by
  have : ∀ l : List Int, (l.map (Ty.int .u8).bulk).sum = l.length := by
    intro l; induction l with
    | nil => rfl
    | cons a l ih => rw [List.map_cons, List.sum_cons, ih]; simp [Ty.bulk]; omega
  have e : (Ty.slice (.int .u8)).bulk x = x.2.length + 1 := by rw [← this x.2]; rfl
  omega

theorem zs_of {zs : List Int} (h : ∀ z ∈ zs, IntKind.u8.min ≤ z ∧ z ≤ IntKind.u8.max) : Zs zs := fun z hz => u8_range (h z hz)

theorem more_range (s : Int) (zs : List Int) : 0 ≤ more s zs ∧ more s zs < 4294967296 := by
  unfold more
  have := (~~~ (run (~~~ (BitVec.ofInt 32 s)) zs)).isLt
  omega
theorem more_append (s : Int) (a b : List Int) : more (more s a) b = more s (a ++ b) := by
  unfold more
  rw [ofInt_toNat, BitVec.not_not]
  unfold run
  rw [List.foldl_append]

theorem step_inj {a b : BitVec 32} (h : Crc.step a = Crc.step b) : a = b := by
  have h31 : ∀ r : BitVec 32, (Crc.step r).getLsbD 31 = r.getLsbD 0 := by
    intro r
    unfold Go.Crc.step
    cases hr : r.getLsbD 0
    · rw [if_neg (by simp)]
      rw [BitVec.getLsbD_ushiftRight]
      exact BitVec.getLsbD_of_ge _ _ (by omega)
    · rw [if_pos rfl, BitVec.getLsbD_xor, BitVec.getLsbD_ushiftRight, BitVec.getLsbD_of_ge _ _ (by omega)]
      decide
  have h0 : a.getLsbD 0 = b.getLsbD 0 := by rw [← h31 a, ← h31 b, h]
  have hs : a >>> 1 = b >>> 1 := by
    unfold Go.Crc.step at h
    rw [h0] at h
    cases hb : b.getLsbD 0
    · rw [hb] at h; simpa using h
    · rw [hb] at h
      simp only [if_true] at h
      have := congrArg (· ^^^ poly) h
      simpa [BitVec.xor_assoc] using this
  apply BitVec.eq_of_getLsbD_eq
  intro i hi
  cases i with
  | zero => exact h0
  | succ i =>
    have := congrArg (fun v => v.getLsbD i) hs
    simp only [BitVec.getLsbD_ushiftRight] at this
    rwa [Nat.add_comm] at this

theorem stepN_inj : ∀ (n : Nat) {a b : BitVec 32}, stepN n a = stepN n b → a = b
  | 0, _, _, h => h
  | n + 1, _, _, h => step_inj (stepN_inj n h)

theorem run_inj : ∀ (zs : List Int) {a b : BitVec 32}, run a zs = run b zs → a = b
  | [], _, _, h => h
  | z :: zs, a, b, h => by
    have := run_inj zs (a := upd a (BitVec.ofInt 8 z)) (b := upd b (BitVec.ofInt 8 z)) h
    have h2 := stepN_inj 8 this
    have := congrArg (· ^^^ (BitVec.ofInt 8 z).setWidth 32) h2
    simpa [BitVec.xor_assoc] using this

/-- sums gone on with the same bytes are alike just where the sums were -/
theorem more_inj {s t : Int} (hs : 0 ≤ s ∧ s < 4294967296) (ht : 0 ≤ t ∧ t < 4294967296) (zs : List Int) : more s zs = more t zs ↔ s = t := by
  constructor
  · intro h
    unfold more at h
    have h1 : (~~~ (run (~~~ (BitVec.ofInt 32 s)) zs)) = ~~~ (run (~~~ (BitVec.ofInt 32 t)) zs) := BitVec.eq_of_toNat_eq (by omega)
    have h2 := run_inj zs (BitVec.not_inj.1 h1)
    have h3 := BitVec.not_inj.1 h2
    rw [w32_bv hs, w32_bv ht, h3]
  · rintro rfl; rfl

theorem info5 : ∃ i z, Try.prog.info? 5 = some i ∧ i.zero = some z ∧ i.size = 1 ∧ i.bytes = 1 ∧ z.cells.size = 1 := by
  have h : (Try.prog.info? 5).map (fun i => (i.zero, i.size, i.bytes)) = some (some (.int .u8 0), 1, 1) := by kernel_rfl
  cases h2 : Try.prog.info? 5 with
  | none => rw [h2] at h; cases h
  | some i =>
    rw [h2] at h
    simp only [Option.map_some, Option.some.injEq, Prod.mk.injEq] at h
    exact ⟨i, .int .u8 0, rfl, h.1, h.2.1, h.2.2, rfl⟩

/-- append of bytes to what may be written -/
theorem app8 {w : World} {v u : Option Addr × Nat × Nat} {xs zs : List Int} (h : Own w 5 1 v (xs.map (Value.int .u8))) (hu : Sl8 w u zs) (hl : xs.length + zs.length ≤ 1073741824) (cs : Array Bool) :
    ∃ v' w', callB Try.prog .append #[31, 31] 31 cs #[.slice v.1 v.2.1 v.2.2, .slice u.1 u.2.1 u.2.2] w = some (.slice v'.1 v'.2.1 v'.2.2, w') ∧ Own w' 5 1 v' ((xs ++ zs).map (Value.int .u8)) ∧
      Fr (blkOf v) w w' ∧ (v'.1 = v.1 ∨ blkOf v' = [w.heap.size]) := by
  obtain ⟨i, z, hi, hz, h1, h2, h3⟩ := info5
  have hl1 := h.len
  simp only [List.length_map, Nat.mul_one] at hl1
  have hl2 := hu.1
  have hml : maxLen = 9223372036854775807 := by decide
  obtain ⟨v', w', e, _, o, f, hv⟩ := callB_append (P := Try.prog) (t := 31) (tx := 31) (ty := 31) (consts := cs) Try.underlying31 hi hz h1 h2 h3 (d := .slice 5) Try.underlying31 (by intro k hk; cases hk) h
    (x := .slice u.1 u.2.1 u.2.2) (m := u.2.1) (news := zs.map (Value.int .u8)) rfl (by simp [hl2])
    (fun w' hw' => by
      have := SlI.firstCells (P := Try.prog) (w' := w') hu (Nat.le_refl zs.length) hw'
      rw [List.take_length, hl2] at this
      exact this) (by simp) (by omega) (by omega)
  rw [← List.map_append] at o
  exact ⟨v', w', e, o, f, hv.imp (·.1) id⟩

end Go.Proofs.Ytnflklkjjjlpaaa
