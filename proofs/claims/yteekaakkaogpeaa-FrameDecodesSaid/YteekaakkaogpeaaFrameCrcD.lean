/-
  FrameCrcD: lemmas on what Go functions of this seat come to (for whatever arguments, as each says). No condition but those that stand in each lemma.
-/
import Derived.Test.YteekaakkaogpeaaFrameCrcC
import Derived.Lib.SlBytesConst
namespace Go.Proofs.Yteekaakkaogpeaa
open Go Go.Ev Go.Crc
set_option maxRecDepth 100000
set_option linter.unusedVariables false
set_option linter.unusedSimpArgs false

/-- the slice s reads as these bytes -/
abbrev Sl8 (w : World) (s : Option Addr × Nat × Nat) (zs : List Int) : Prop := SlI .u8 w s zs

def Zs (zs : List Int) : Prop := ∀ z ∈ zs, 0 ≤ z ∧ z < 256

theorem byte_bv {z : Int} (h : 0 ≤ z ∧ z < 256) : z = (((BitVec.ofInt 8 z).toNat : Nat) : Int) := by
  rw [BitVec.toNat_ofInt]; omega
theorem w32_bv {z : Int} (h : 0 ≤ z ∧ z < 4294967296) : z = (((BitVec.ofInt 32 z).toNat : Nat) : Int) := by
  rw [BitVec.toNat_ofInt]; omega

/-- a table, used or not -/
def Tbl (w : World) (b : Nat) : Prop := Blk w b (hd 0 0 0 ++ tl 0) 83 ∨ Blk w b (hd 1 0 0 ++ tl 256) 83
def TblD (w : World) (b : Nat) : Prop := Blk w b (hd 1 0 0 ++ tl 256) 83

section
variable {w : World}
theorem Tbl.lt {b : Nat} (h : Tbl w b) : b < w.heap.size := h.elim Blk.lt Blk.lt
theorem Tbl.fr {b : Nat} {S : List Nat} {w' : World} (h : Tbl w b) (hf : Fr S w w') (hb : b ∉ S) : Tbl w' b := h.imp (·.fr hf hb) (·.fr hf hb)

theorem load19 {a : Addr} {n : Int} (h : w.cell? a = some (.int .u32 n)) : callF Try.prog 39 #[.pointer (some a)] w = some (.int .u32 n, w) := by
  unfold callF
  rw [run_call_load Try.func39 (by kernel_rfl) (by kernel_rfl) (by kernel_rfl) .u32 (by kernel_rfl) h]
  rfl
theorem bload17 {a : Addr} {n : Int} (h : w.cell? a = some (.int .u32 n)) : callF Try.prog 37 #[.pointer (some a)] w = some (.bool (n != 0), w) :=
  g37_call (by unfold g37; simp only [load19 h, Option.bind_some, asP_pointer, asB_bool, asI_int, asS_string, asSl_slice, asM_map, asTup0, asTup1, asTup2, asTup3, asTup4, asTup5, getD0, getD1, getD2, getD3, getD4, Bool.not_true, Bool.not_false, Bool.false_eq_true, Bool.true_eq_false, ↓reduceIte, decide_true, decide_false, Option.isNone_some, Option.isNone_none, Option.isSome_some, Option.isSome_none, beq_self_eq_true, bne_self_eq_false, Bool.and_true, Bool.true_and, Bool.and_false, Bool.false_and, not_true_eq_false, not_false_eq_true])

theorem do15 {b : Nat} (h : Tbl w b) : ∃ w', callF Try.prog 35 #[.pointer (some ⟨b, 0, none⟩), .func (.func 36) #[.pointer (some ⟨b, 0, none⟩)] #[]] w = some (.tuple #[], w') ∧ TblD w' b ∧ Fr [b] w w' := by
  rcases h with h | h
  · have c0 : w.cell? ⟨b, 0, none⟩ = some (.int .u32 0) := h.cell 0
    have c1 : w.cell? ⟨b, 1, none⟩ = some (.int .i32 0) := h.cell 1
    have h1 : Blk (w.setCell ⟨b, 1, none⟩ (.int .i32 1)) b (hd 0 1 0 ++ tl 0) 83 := h.set 1 (.int .i32 1)
    have f1 : Fr [b] w (w.setCell ⟨b, 1, none⟩ (.int .i32 1)) := Fr.setCell
    obtain ⟨w2, e2, h2, f2⟩ := fill16 h1
    have hS := slow_first b 0 ⟨b, 0, none⟩ w w2 c0 c1 (h.frozen 0) (h.frozen 1) (calls_of_callF Try.call36 e2) (h2.cell 0) (h2.cell 1) (h2.frozen 0) (h2.frozen 1)
    simp only [Nat.zero_add] at hS
    have eS := callF_of_calls Try.call38 (by kernel_rfl) hS
    have h3 : Blk (w2.drew.setCell ⟨b, 0, none⟩ (.int .u32 1)) b (hd 1 1 0 ++ tl 256) 83 := h2.drew.set 0 (.int .u32 1)
    have h4 : Blk ((w2.drew.setCell ⟨b, 0, none⟩ (.int .u32 1)).setCell ⟨b, 1, none⟩ (.int .i32 0)) b (hd 1 0 0 ++ tl 256) 83 := h3.set 1 (.int .i32 0)
    have f3 : Fr [b] w2 ((w2.drew.setCell ⟨b, 0, none⟩ (.int .u32 1)).setCell ⟨b, 1, none⟩ (.int .i32 0)) := ((Fr.drew _ _).trans Fr.setCell).trans Fr.setCell
    refine ⟨_, g35_call ?_, h4, (f1.trans f2).trans f3⟩
    have e17 := bload17 c0
    unfold g35
    simp only [e17, eS, Option.bind_some, asP_pointer, asB_bool, asI_int, asS_string, asSl_slice, asM_map, asTup0, asTup1, asTup2, asTup3, asTup4, asTup5, getD0, getD1, getD2, getD3, getD4, Bool.not_true, Bool.not_false, Bool.false_eq_true, Bool.true_eq_false, ↓reduceIte, decide_true, decide_false, Option.isNone_some, Option.isNone_none, Option.isSome_some, Option.isSome_none, beq_self_eq_true, bne_self_eq_false, Bool.and_true, Bool.true_and, Bool.and_false, Bool.false_and, not_true_eq_false, not_false_eq_true]
  · have c0 : w.cell? ⟨b, 0, none⟩ = some (.int .u32 1) := h.cell 0
    refine ⟨w, g35_call ?_, h, Fr.refl _ _⟩
    have e17 := bload17 c0
    have h10 : ((1 : Int) != 0) = true := by decide
    unfold g35
    simp only [e17, h10, Option.bind_some, asP_pointer, asB_bool, asI_int, asS_string, asSl_slice, asM_map, asTup0, asTup1, asTup2, asTup3, asTup4, asTup5, getD0, getD1, getD2, getD3, getD4, Bool.not_true, Bool.not_false, Bool.false_eq_true, Bool.true_eq_false, ↓reduceIte, decide_true, decide_false, Option.isNone_some, Option.isNone_none, Option.isSome_some, Option.isSome_none, beq_self_eq_true, bne_self_eq_false, Bool.and_true, Bool.true_and, Bool.and_false, Bool.false_and, not_true_eq_false, not_false_eq_true]

theorem run_step {c : BitVec 32} {zs : List Int} {k : Nat} (hk : k < zs.length) : run c (zs.take (k + 1)) = upd (run c (zs.take k)) (BitVec.ofInt 8 zs[k]) := by
  unfold run
  rw [List.take_succ_eq_append_getElem hk, List.foldl_append]
  rfl

theorem more14 {b : Nat} {s : Int} {u : Option Addr × Nat × Nat} {zs : List Int} (h : Tbl w b) (hs : 0 ≤ s ∧ s < 4294967296) (hu : Sl8 w u zs) (hz : Zs zs) (hd : 0 < zs.length → b ∉ blkOf u) (hl : zs.length < 9223372036854775808) :
    ∃ w', callF Try.prog 32 #[.pointer (some ⟨b, 0, none⟩), .int .u32 s, .slice u.1 u.2.1 u.2.2] w = some (.int .u32 (more s zs), w') ∧ TblD w' b ∧ Fr [b] w w' := by
  obtain ⟨w1, e1, h1, f1⟩ := do15 h
  have hu1 : Sl8 w1 u zs := hu.fr3 f1 (by intro h0 x hx hm; simp at hm; subst hm; exact hd (by rw [hu.1]; exact h0) hx)
  obtain ⟨t, w', e2, rfl, e3⟩ := loopS_count (b := g32_l4_b u (some ⟨b, 0, none⟩)) (I := fun k st w' => w' = w1 ∧ st = (((run (~~~ (BitVec.ofInt 32 s)) (zs.take k)).toNat : Int), (k : Int))) (n := zs.length)
    (fun k st w2 hk ⟨hw, hst⟩ => by
      subst hw hst
      refine ⟨(((run (~~~ (BitVec.ofInt 32 s)) (zs.take (k + 1))).toNat : Int), ((k + 1 : Nat) : Int)), w2, ?_, rfl, rfl⟩
      obtain ⟨a, g1, g2⟩ := hu1.get hk
      have hzk := hz zs[k] (List.getElem_mem hk)
      have hc : (k : Int) < (u.2.1 : Int) := by have := hu1.1; omega
      have hs := wrap_succ (n := k) (by omega)
      rw [run_step hk]
      generalize run (~~~ (BitVec.ofInt 32 s)) (zs.take k) = c
      have hbz := byte_bv hzk
      generalize hx : BitVec.ofInt 8 zs[k] = x at hbz
      rw [hbz] at g2
      have hlt : (c.setWidth 8 ^^^ x).toNat < 256 := (c.setWidth 8 ^^^ x).isLt
      have hix := idxA_arr (a := ⟨b, 3, none⟩) hlt
      have hcell : w2.cell? ⟨b, 3 + (c.setWidth 8 ^^^ x).toNat, none⟩ = some (.int .u32 (tab (c.setWidth 8 ^^^ x).toNat)) := by
        rw [Blk.cell h1]; exact tl_get 1 0 0 hlt
      rw [addr_add] at hix
      unfold g32_l4_b
      simp only [hc, g1, g2, addr_add, Nat.zero_add, wrap8_32, ofInt_toNat, wrap8, hix, hcell, fdiv8, hs, Option.bind_some, asP_pointer, asB_bool, asI_int, asS_string, asSl_slice, asM_map, asTup0, asTup1, asTup2, asTup3, asTup4, asTup5, getD0, getD1, getD2, getD3, getD4, Bool.not_true, Bool.not_false, Bool.false_eq_true, Bool.true_eq_false, ↓reduceIte, decide_true, decide_false, Option.isNone_some, Option.isNone_none, Option.isSome_some, Option.isSome_none, beq_self_eq_true, bne_self_eq_false, Bool.and_true, Bool.true_and, Bool.and_false, Bool.false_and, not_true_eq_false, not_false_eq_true]
      have ht : BitVec.ofInt 32 (tab (c.setWidth 8 ^^^ x).toNat) = stepN 8 ((c.setWidth 8 ^^^ x).setWidth 32) := by
        unfold tab
        rw [ofInt_toNat, BitVec.ofNat_toNat]
      rw [ht, wrap32, upd_tab])
    (fun st w2 ⟨hw, hst⟩ => by
      subst hw hst
      have hc : ¬ ((zs.length : Nat) : Int) < (u.2.1 : Int) := by have := hu1.1; omega
      unfold g32_l4_b
      simp only [hc, Option.bind_some, asP_pointer, asB_bool, asI_int, asS_string, asSl_slice, asM_map, asTup0, asTup1, asTup2, asTup3, asTup4, asTup5, getD0, getD1, getD2, getD3, getD4, Bool.not_true, Bool.not_false, Bool.false_eq_true, Bool.true_eq_false, ↓reduceIte, decide_true, decide_false, Option.isNone_some, Option.isNone_none, Option.isSome_some, Option.isSome_none, beq_self_eq_true, bne_self_eq_false, Bool.and_true, Bool.true_and, Bool.and_false, Bool.false_and, not_true_eq_false, not_false_eq_true])
    (Nat.zero_le _) (k := 0) (s := (((run (~~~ (BitVec.ofInt 32 s)) (zs.take 0)).toNat : Int), ((0 : Nat) : Int))) (w := w1) ⟨rfl, rfl⟩
  refine ⟨w', g32_call ?_, h1, f1⟩
  have e4 := g32_l4_x0_of e2
  simp only [List.take_zero, run, List.foldl_nil, Int.natCast_zero] at e4
  have e5 : IntKind.u32.wrap (((BitVec.ofInt 32 IntKind.u32.max ^^^ BitVec.ofInt 32 s).toNat : Nat) : Int) = (((~~~ (BitVec.ofInt 32 s)).toNat : Nat) : Int) := by rw [ones32, wrap32]
  unfold g32
  simp only [e1, e5, e4, Option.bind_some, asP_pointer, asB_bool, asI_int, asS_string, asSl_slice, asM_map, asTup0, asTup1, asTup2, asTup3, asTup4, asTup5, getD0, getD1, getD2, getD3, getD4, Bool.not_true, Bool.not_false, Bool.false_eq_true, Bool.true_eq_false, ↓reduceIte, decide_true, decide_false, Option.isNone_some, Option.isNone_none, Option.isSome_some, Option.isSome_none, beq_self_eq_true, bne_self_eq_false, Bool.and_true, Bool.true_and, Bool.and_false, Bool.false_and, not_true_eq_false, not_false_eq_true]
  unfold g32_l4_x0
  rw [e3]
  simp only [List.take_length, ofInt_toNat, ones32, wrap32]
  rfl

theorem sum13 {b : Nat} {u : Option Addr × Nat × Nat} {zs : List Int} (h : Tbl w b) (hu : Sl8 w u zs) (hz : Zs zs) (hd : 0 < zs.length → b ∉ blkOf u) (hl : zs.length < 9223372036854775808) :
    ∃ w', callF Try.prog 26 #[.pointer (some ⟨b, 0, none⟩), .slice u.1 u.2.1 u.2.2] w = some (.int .u32 (more 0 zs), w') ∧ TblD w' b ∧ Fr [b] w w' := by
  obtain ⟨w1, e1, h1, f1⟩ := more14 h (s := 0) (by decide) hu hz hd hl
  exact ⟨w1, g26_call (by unfold g26; simp only [e1, Option.bind_some, asP_pointer, asB_bool, asI_int, asS_string, asSl_slice, asM_map, asTup0, asTup1, asTup2, asTup3, asTup4, asTup5, getD0, getD1, getD2, getD3, getD4, Bool.not_true, Bool.not_false, Bool.false_eq_true, Bool.true_eq_false, ↓reduceIte, decide_true, decide_false, Option.isNone_some, Option.isNone_none, Option.isSome_some, Option.isSome_none, beq_self_eq_true, bne_self_eq_false, Bool.and_true, Bool.true_and, Bool.and_false, Bool.false_and, not_true_eq_false, not_false_eq_true]), h1, f1⟩
end
end Go.Proofs.Yteekaakkaogpeaa
