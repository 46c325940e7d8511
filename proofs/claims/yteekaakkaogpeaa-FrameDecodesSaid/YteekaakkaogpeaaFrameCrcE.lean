/-
  FrameCrcE: lemmas on what Go functions of this seat come to (for whatever arguments, as each says). No condition but those that stand in each lemma.
-/
import Derived.Test.YteekaakkaogpeaaFrameCrcD
namespace Go.Proofs.Yteekaakkaogpeaa
open Go Go.Ev Go.Crc
set_option maxRecDepth 100000
set_option linter.unusedVariables false
set_option linter.unusedSimpArgs false
section
variable {w : World}

theorem ref_inner {u : Option Addr × Nat × Nat} {zs : List Int} (hu : Sl8 w u zs) (hz : Zs zs) {k : Nat} (hk : k < zs.length) (r0 : BitVec 32) (i0 : Int × Int) (hi : i0 = (((r0.toNat : Nat) : Int), (k : Int))) :
    ∃ s' w', loopS (g23_l5_b u i0) (((r0.toNat : Nat) : Int), 0) w = some (.exit 2, s', w') ∧ w' = w ∧ s'.1 = (((upd r0 (BitVec.ofInt 8 zs[k])).toNat : Nat) : Int) := by
  subst hi
  obtain ⟨a, g1, g2⟩ := hu.get hk
  have hbz := byte_bv (hz zs[k] (List.getElem_mem hk))
  generalize hx : BitVec.ofInt 8 zs[k] = x at hbz
  rw [hbz] at g2
  obtain ⟨e, t, w', h1, rfl, rfl, h2⟩ := loopS_rule (b := g23_l5_b u (((r0.toNat : Nat) : Int), (k : Int)))
    (I := fun j s w' => w' = w ∧ ∃ r : BitVec 32, r ^^^ (x.setWidth 32) >>> j = stepN j (r0 ^^^ x.setWidth 32) ∧ s = (((r.toNat : Nat) : Int), (j : Int)))
    (Q := fun e s w' => e = .exit 2 ∧ w' = w ∧ s.1 = (((upd r0 x).toNat : Nat) : Int)) (n := 8)
    (fun j s w1 hj ⟨hw, r, hr, hs⟩ => by
      subst hw hs
      refine ⟨.normal, (((bitStep r (x.getLsbD j)).toNat : Int), ((j + 1 : Nat) : Int)), w1, ?_, .inl ⟨rfl, rfl, bitStep r (x.getLsbD j), ?_, rfl⟩⟩
      · have hc : (j : Int) < 8 := by omega
        have hs := wrap_succ (n := j) (by omega)
        have hw : IntKind.u64.wrap (j : Int) = (j : Int) := wrap_u64 (by omega) (by omega)
        have hn : ¬ (j : Int) < 0 := by omega
        have hm : min (Int.toNat (j : Int)) 8 = j := by simp; omega
        unfold g23_l5_b
        simp only [hc, g1, g2, hw, hn, hm, inbit, Option.bind_some, asP_pointer, asB_bool, asI_int, asS_string, asSl_slice, asM_map, asTup0, asTup1, asTup2, asTup3, asTup4, asTup5, getD0, getD1, getD2, getD3, getD4, Bool.not_true, Bool.not_false, Bool.false_eq_true, Bool.true_eq_false, ↓reduceIte, decide_true, decide_false, Option.isNone_some, Option.isNone_none, Option.isSome_some, Option.isSome_none, beq_self_eq_true, bne_self_eq_false, Bool.and_true, Bool.true_and, Bool.and_false, Bool.false_and, not_true_eq_false, not_false_eq_true]
        simp only [ofInt_toNat, bit0, outbit, fdiv1, hs, Option.bind_some, asP_pointer, asB_bool, asI_int, asS_string, asSl_slice, asM_map, asTup0, asTup1, asTup2, asTup3, asTup4, asTup5, getD0, getD1, getD2, getD3, getD4, Bool.not_true, Bool.not_false, Bool.false_eq_true, Bool.true_eq_false, ↓reduceIte, decide_true, decide_false, Option.isNone_some, Option.isNone_none, Option.isSome_some, Option.isSome_none, beq_self_eq_true, bne_self_eq_false, Bool.and_true, Bool.true_and, Bool.and_false, Bool.false_and, not_true_eq_false, not_false_eq_true]
        have e : BitVec.ofInt 32 2197175160 = poly := by decide
        rw [e, wrap32]
        unfold bitStep
        generalize (r.getLsbD 0 ^^ x.getLsbD j) = bo
        cases bo
        · simp only [Option.bind_some, asP_pointer, asB_bool, asI_int, asS_string, asSl_slice, asM_map, asTup0, asTup1, asTup2, asTup3, asTup4, asTup5, getD0, getD1, getD2, getD3, getD4, Bool.not_true, Bool.not_false, Bool.false_eq_true, Bool.true_eq_false, ↓reduceIte, decide_true, decide_false, Option.isNone_some, Option.isNone_none, Option.isSome_some, Option.isSome_none, beq_self_eq_true, bne_self_eq_false, Bool.and_true, Bool.true_and, Bool.and_false, Bool.false_and, not_true_eq_false, not_false_eq_true]
        · simp only [Option.bind_some, asP_pointer, asB_bool, asI_int, asS_string, asSl_slice, asM_map, asTup0, asTup1, asTup2, asTup3, asTup4, asTup5, getD0, getD1, getD2, getD3, getD4, Bool.not_true, Bool.not_false, Bool.false_eq_true, Bool.true_eq_false, ↓reduceIte, decide_true, decide_false, Option.isNone_some, Option.isNone_none, Option.isSome_some, Option.isSome_none, beq_self_eq_true, bne_self_eq_false, Bool.and_true, Bool.true_and, Bool.and_false, Bool.false_and, not_true_eq_false, not_false_eq_true]
      · rw [stepN_succ', ← hr, ← bitStep_eq]
        have e1 : ((x.setWidth 32) >>> j).getLsbD 0 = x.getLsbD j := by
          simp only [BitVec.getLsbD_setWidth, BitVec.getLsbD_ushiftRight]
          simp
          exact fun _ => by omega
        have e3 : ((x.setWidth 32) >>> j) >>> 1 = (x.setWidth 32) >>> (j + 1) := by
          apply BitVec.eq_of_getLsbD_eq
          intro i hi
          simp only [BitVec.getLsbD_ushiftRight]
          congr 1; omega
        rw [e1, e3])
    (fun s w1 ⟨hw, r, hr, hs⟩ => by
      subst hw hs
      refine ⟨.exit 2, (((r.toNat : Nat) : Int), ((8 : Nat) : Int)), w1, ?_, by simp, rfl, rfl, ?_⟩
      · unfold g23_l5_b
        have hc : ¬ ((8 : Nat) : Int) < 8 := by decide
        simp only [hc, Option.bind_some, asP_pointer, asB_bool, asI_int, asS_string, asSl_slice, asM_map, asTup0, asTup1, asTup2, asTup3, asTup4, asTup5, getD0, getD1, getD2, getD3, getD4, Bool.not_true, Bool.not_false, Bool.false_eq_true, Bool.true_eq_false, ↓reduceIte, decide_true, decide_false, Option.isNone_some, Option.isNone_none, Option.isSome_some, Option.isSome_none, beq_self_eq_true, bne_self_eq_false, Bool.and_true, Bool.true_and, Bool.and_false, Bool.false_and, not_true_eq_false, not_false_eq_true]
      · have e0 : (x.setWidth 32) >>> 8 = (0#32 : BitVec 32) := by
          apply BitVec.eq_of_getLsbD_eq
          intro i hi
          simp only [BitVec.getLsbD_ushiftRight, BitVec.getLsbD_setWidth]
          rw [BitVec.getLsbD_of_ge x (8 + i) (by omega)]
          simp
        rw [e0, BitVec.xor_zero] at hr
        rw [hr]; rfl)
    (Nat.zero_le _) (k := 0) (s := (((r0.toNat : Nat) : Int), ((0 : Nat) : Int))) (w := w) ⟨rfl, r0, rfl, rfl⟩
  exact ⟨t, w', h1, rfl, h2⟩

theorem ref12 {s : Int} {u : Option Addr × Nat × Nat} {zs : List Int} (hs : 0 ≤ s ∧ s < 4294967296) (hu : Sl8 w u zs) (hz : Zs zs) (hl : zs.length < 9223372036854775808) :
    callF Try.prog 23 #[.int .u32 s, .slice u.1 u.2.1 u.2.2] w = some (.int .u32 (more s zs), w) := by
  obtain ⟨t, w', e2, rfl, e3⟩ := loopS_count (b := g23_l1_b u) (I := fun k st w' => w' = w ∧ st = (((run (~~~ (BitVec.ofInt 32 s)) (zs.take k)).toNat : Int), (k : Int))) (n := zs.length)
    (fun k st w2 hk ⟨hw, hst⟩ => by
      subst hw hst
      refine ⟨(((run (~~~ (BitVec.ofInt 32 s)) (zs.take (k + 1))).toNat : Int), ((k + 1 : Nat) : Int)), w2, ?_, rfl, rfl⟩
      have hc : (k : Int) < (u.2.1 : Int) := by have := hu.1; omega
      have hs := wrap_succ (n := k) (by omega)
      rw [run_step hk]
      generalize run (~~~ (BitVec.ofInt 32 s)) (zs.take k) = c
      obtain ⟨t, w3, e4, hw3, e5⟩ := ref_inner hu hz hk c _ rfl
      rw [hw3] at e4
      have e6 := g23_l5_x2_of e4
      unfold g23_l1_b
      simp only [hc, e6, Option.bind_some, asP_pointer, asB_bool, asI_int, asS_string, asSl_slice, asM_map, asTup0, asTup1, asTup2, asTup3, asTup4, asTup5, getD0, getD1, getD2, getD3, getD4, Bool.not_true, Bool.not_false, Bool.false_eq_true, Bool.true_eq_false, ↓reduceIte, decide_true, decide_false, Option.isNone_some, Option.isNone_none, Option.isSome_some, Option.isSome_none, beq_self_eq_true, bne_self_eq_false, Bool.and_true, Bool.true_and, Bool.and_false, Bool.false_and, not_true_eq_false, not_false_eq_true]
      unfold g23_l5_x2
      simp only [e5, hs, Option.bind_some, asP_pointer, asB_bool, asI_int, asS_string, asSl_slice, asM_map, asTup0, asTup1, asTup2, asTup3, asTup4, asTup5, getD0, getD1, getD2, getD3, getD4, Bool.not_true, Bool.not_false, Bool.false_eq_true, Bool.true_eq_false, ↓reduceIte, decide_true, decide_false, Option.isNone_some, Option.isNone_none, Option.isSome_some, Option.isSome_none, beq_self_eq_true, bne_self_eq_false, Bool.and_true, Bool.true_and, Bool.and_false, Bool.false_and, not_true_eq_false, not_false_eq_true])
    (fun st w2 ⟨hw, hst⟩ => by
      subst hw hst
      have hc : ¬ ((zs.length : Nat) : Int) < (u.2.1 : Int) := by have := hu.1; omega
      unfold g23_l1_b
      simp only [hc, Option.bind_some, asP_pointer, asB_bool, asI_int, asS_string, asSl_slice, asM_map, asTup0, asTup1, asTup2, asTup3, asTup4, asTup5, getD0, getD1, getD2, getD3, getD4, Bool.not_true, Bool.not_false, Bool.false_eq_true, Bool.true_eq_false, ↓reduceIte, decide_true, decide_false, Option.isNone_some, Option.isNone_none, Option.isSome_some, Option.isSome_none, beq_self_eq_true, bne_self_eq_false, Bool.and_true, Bool.true_and, Bool.and_false, Bool.false_and, not_true_eq_false, not_false_eq_true])
    (Nat.zero_le _) (k := 0) (s := (((run (~~~ (BitVec.ofInt 32 s)) (zs.take 0)).toNat : Int), ((0 : Nat) : Int))) (w := w) ⟨rfl, rfl⟩
  refine g23_call ?_
  have e4 := g23_l1_x0_of e2
  simp only [List.take_zero, run, List.foldl_nil, Int.natCast_zero] at e4
  have e5 : IntKind.u32.wrap (((BitVec.ofInt 32 IntKind.u32.max ^^^ BitVec.ofInt 32 s).toNat : Nat) : Int) = (((~~~ (BitVec.ofInt 32 s)).toNat : Nat) : Int) := by rw [ones32, wrap32]
  unfold g23
  rw [e5, e4]
  unfold g23_l1_x0
  rw [e3]
  simp only [List.take_length, ofInt_toNat, ones32, wrap32]
  rfl

theorem new9 : ∃ w', callF Try.prog 21 #[] w = some (.pointer (some ⟨w.heap.size, 0, none⟩), w') ∧ Tbl w' w.heap.size ∧ Fr [] w w' := by
  have hb := Blk.new w (hd 0 0 0 ++ tl 0) 83
  refine ⟨w.alloc (.cells (hd 0 0 0 ++ tl 0).toArray 83), g21_call ?_, .inl hb, Fr.alloc _⟩
  kernel_rfl

end
end Go.Proofs.Yteekaakkaogpeaa
