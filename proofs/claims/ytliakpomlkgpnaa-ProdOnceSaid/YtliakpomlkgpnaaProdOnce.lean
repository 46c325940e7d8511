/-
  ProdOnce: lemmas on what Go functions of this seat come to (for whatever arguments, as each says). No condition but those that stand in each lemma.
-/
import Derived.Test.YtliakpomlkgpnaaProdL3
import Derived.Test.YtliakpomlkgpnaaProdS
namespace Go.Proofs.Ytliakpomlkgpnaa
open Go Go.Ev
set_option maxRecDepth 100000
set_option linter.unusedVariables false
set_option linter.unusedSimpArgs false

/-- a copy of a batch in a block of its own -/
theorem newB (x : World) (b : BV) : stL (x.alloc (.cells #[.int .i64 0, .int .i64 0, .int .u64 0, .int .i64 0, .int .i64 0, .bool false, .bool false, .bool false, .slice none 0 0] 30)) ⟨x.heap.size, 0, none⟩ [.int .i64 b.base, .int .i64 b.ep, .int .u64 b.pid, .int .i64 b.pe, .int .i64 b.seq, .bool b.txn, .bool b.con, .bool b.com, .slice b.q.1 b.q.2.1 b.q.2.2] 0 = some (x.alloc (.cells b.cs.toArray 30)) ∧
    Blk (x.alloc (.cells b.cs.toArray 30)) x.heap.size b.cs 30 ∧ Fr [] x (x.alloc (.cells b.cs.toArray 30)) :=
  ⟨stL_new (vs := b.cs) rfl (by simp [BV.cs]), Blk.new x b.cs 30, Fr.alloc _⟩

theorem once_in {x : World} {q : Option Addr × Nat × Nat} {s9 : Bool × Int} {w10 : World} {L : List BV} {b : BV} {k i : Nat} (f : Bool) (hs9 : s9.2 = (i : Int)) (hn : L.length < 9223372036854775807) (hq : Own x 30 9 q (logCs L)) (hb : Blk x w10.heap.size b.cs 30) (hi : i < L.length) (hk : k < i)
    (ho : ∀ c ∈ L.take i, c.pid = b.pid → c.pe ≤ b.pe) :
    ∃ x', g3_l25_b s9 q w10 (f, nxt (L.take k) b.pid b.pe, (k : Int)) x = some (.normal, (f, nxt (L.take (k + 1)) b.pid b.pe, ((k + 1 : Nat) : Int)), x') ∧ Fr [] x x' := by
  have hkL : k < L.length := by omega
  obtain ⟨a, i1, l1⟩ := log_at hq hkL
  have hs := wrap_succ (n := k) (by omega)
  have hmem : L[k] ∈ L.take i := List.mem_take_iff_getElem.mpr ⟨k, by omega, rfl⟩
  have hle := ho _ hmem
  have hnx := nxt_snoc (L.take k) L[k] b.pid b.pe
  rw [← List.take_succ_eq_append_getElem hkL] at hnx
  obtain ⟨c, hc⟩ : ∃ c, L[k] = c := ⟨_, rfl⟩
  rw [hc] at l1 hle hnx
  rw [hnx]
  have k9 : c.cs = [.int .i64 c.base, .int .i64 c.ep, .int .u64 c.pid, .int .i64 c.pe, .int .i64 c.seq, .bool c.txn, .bool c.con, .bool c.com, .slice c.q.1 c.q.2.1 c.q.2.2] := rfl
  rw [k9] at l1
  obtain ⟨n1, n2, n3⟩ := newB x c
  have hb' := hb.fr n3 (by simp)
  obtain ⟨_, _, b2, b3, b4, _, b6, _, b8⟩ := cs9 hb'
  obtain ⟨_, _, c2, c3, c4, _, c6, _, c8⟩ := cs9 n2
  obtain ⟨v, hv⟩ : ∃ v, x.alloc (.cells c.cs.toArray 30) = v := ⟨_, rfl⟩
  rw [hv] at n1 n3 b2 b3 b4 b6 b8 c2 c3 c4 c6 c8
  have hki : (k : Int) < s9.2 := by omega
  refine ⟨v, ?_, n3⟩
  obtain ⟨N, hN⟩ : ∃ N, nxt (L.take k) b.pid b.pe = N := ⟨_, rfl⟩
  rw [hN]
  unfold g3_l25_b
  simp only [hki, decide_true, if_true]
  rw [i1, obs, l1, obs]
  simp only [obs, asP_pointer, asB_bool, asI_int, asS_string, asSl_slice, asM_map, asTup0, asTup1, asTup2, asTup3, asTup4, asTup5, asTup6, asTup7, asTup8, asTup9, getD0, getD1, getD2, getD3, getD4, getD5, getD6, getD7, getD8, getD9, getD10, getD11, Bool.not_true, Bool.not_false, Bool.false_eq_true, Bool.true_eq_false, ↓reduceIte, decide_true, decide_false, Option.isNone_some, Option.isNone_none, Option.isSome_some, Option.isSome_none, beq_self_eq_true, bne_self_eq_false, Bool.and_true, Bool.true_and, Bool.and_false, Bool.false_and, not_true_eq_false, not_false_eq_true]
  rw [n1, obs]
  simp only [addr_add, Nat.zero_add, b2, c2, obs, asP_pointer, asB_bool, asI_int, asS_string, asSl_slice, asM_map, asTup0, asTup1, asTup2, asTup3, asTup4, asTup5, asTup6, asTup7, asTup8, asTup9, getD0, getD1, getD2, getD3, getD4, getD5, getD6, getD7, getD8, getD9, getD10, getD11, Bool.not_true, Bool.not_false, Bool.false_eq_true, Bool.true_eq_false, ↓reduceIte, decide_true, decide_false, Option.isNone_some, Option.isNone_none, Option.isSome_some, Option.isSome_none, beq_self_eq_true, bne_self_eq_false, Bool.and_true, Bool.true_and, Bool.and_false, Bool.false_and, not_true_eq_false, not_false_eq_true]
  by_cases hp : c.pid = b.pid
  · have := hle hp
    have h1 : (c.pid != b.pid) = false := by simp [hp]
    have h2 : decide (c.pe > b.pe) = false := by simp; omega
    simp only [h1, b3, c3, h2, obs, asP_pointer, asB_bool, asI_int, asS_string, asSl_slice, asM_map, asTup0, asTup1, asTup2, asTup3, asTup4, asTup5, asTup6, asTup7, asTup8, asTup9, getD0, getD1, getD2, getD3, getD4, getD5, getD6, getD7, getD8, getD9, getD10, getD11, Bool.not_true, Bool.not_false, Bool.false_eq_true, Bool.true_eq_false, ↓reduceIte, decide_true, decide_false, Option.isNone_some, Option.isNone_none, Option.isSome_some, Option.isSome_none, beq_self_eq_true, bne_self_eq_false, Bool.and_true, Bool.true_and, Bool.and_false, Bool.false_and, not_true_eq_false, not_false_eq_true]
    by_cases he : c.pe = b.pe
    · have h3 : (c.pe == b.pe) = true := by simp [he]
      simp only [h3, c6, obs, asP_pointer, asB_bool, asI_int, asS_string, asSl_slice, asM_map, asTup0, asTup1, asTup2, asTup3, asTup4, asTup5, asTup6, asTup7, asTup8, asTup9, getD0, getD1, getD2, getD3, getD4, getD5, getD6, getD7, getD8, getD9, getD10, getD11, Bool.not_true, Bool.not_false, Bool.false_eq_true, Bool.true_eq_false, ↓reduceIte, decide_true, decide_false, Option.isNone_some, Option.isNone_none, Option.isSome_some, Option.isSome_none, beq_self_eq_true, bne_self_eq_false, Bool.and_true, Bool.true_and, Bool.and_false, Bool.false_and, not_true_eq_false, not_false_eq_true]
      cases hcon : c.con with
      | true => simp [hs]
      | false => simp only [c4, c8, hp, he, obs, asP_pointer, asB_bool, asI_int, asS_string, asSl_slice, asM_map, asTup0, asTup1, asTup2, asTup3, asTup4, asTup5, asTup6, asTup7, asTup8, asTup9, getD0, getD1, getD2, getD3, getD4, getD5, getD6, getD7, getD8, getD9, getD10, getD11, Bool.not_true, Bool.not_false, Bool.false_eq_true, Bool.true_eq_false, ↓reduceIte, decide_true, decide_false, Option.isNone_some, Option.isNone_none, Option.isSome_some, Option.isSome_none, beq_self_eq_true, bne_self_eq_false, Bool.and_true, Bool.true_and, Bool.and_false, Bool.false_and, not_true_eq_false, not_false_eq_true]; simp [hs]
    · have h3 : (c.pe == b.pe) = false := by simp [he]
      simp only [h3, obs, asP_pointer, asB_bool, asI_int, asS_string, asSl_slice, asM_map, asTup0, asTup1, asTup2, asTup3, asTup4, asTup5, asTup6, asTup7, asTup8, asTup9, getD0, getD1, getD2, getD3, getD4, getD5, getD6, getD7, getD8, getD9, getD10, getD11, Bool.not_true, Bool.not_false, Bool.false_eq_true, Bool.true_eq_false, ↓reduceIte, decide_true, decide_false, Option.isNone_some, Option.isNone_none, Option.isSome_some, Option.isSome_none, beq_self_eq_true, bne_self_eq_false, Bool.and_true, Bool.true_and, Bool.and_false, Bool.false_and, not_true_eq_false, not_false_eq_true]
      rw [if_neg (by rintro ⟨_, h, _⟩; exact he h)]
      simp [hs]
  · have h1 : (c.pid != b.pid) = true := by simp [hp]
    simp only [h1, obs, asP_pointer, asB_bool, asI_int, asS_string, asSl_slice, asM_map, asTup0, asTup1, asTup2, asTup3, asTup4, asTup5, asTup6, asTup7, asTup8, asTup9, getD0, getD1, getD2, getD3, getD4, getD5, getD6, getD7, getD8, getD9, getD10, getD11, Bool.not_true, Bool.not_false, Bool.false_eq_true, Bool.true_eq_false, ↓reduceIte, decide_true, decide_false, Option.isNone_some, Option.isNone_none, Option.isSome_some, Option.isSome_none, beq_self_eq_true, bne_self_eq_false, Bool.and_true, Bool.true_and, Bool.and_false, Bool.false_and, not_true_eq_false, not_false_eq_true]
    rw [if_neg (by rintro ⟨h, _, _⟩; exact hp h)]
    simp [hs]

theorem once_out {x : World} {q : Option Addr × Nat × Nat} {L : List BV} {i : Nat} (f : Bool) (hn : L.length < 9223372036854775807) (hq : Own x 30 9 q (logCs L)) (hi : i < L.length) (ho : OnceAt (L.take i) L[i]) :
    ∃ x', g3_l8_b q (f, (i : Int)) x = some (.normal, (f, ((i + 1 : Nat) : Int)), x') ∧ Fr [] x x' := by
  have hl := hq.len
  rw [logCs_len] at hl
  obtain ⟨a, i1, l1⟩ := log_at hq hi
  have hs := wrap_succ (n := i) (by omega)
  obtain ⟨b, hb⟩ : ∃ b, L[i] = b := ⟨_, rfl⟩
  rw [hb] at l1 ho
  have k9 : b.cs = [.int .i64 b.base, .int .i64 b.ep, .int .u64 b.pid, .int .i64 b.pe, .int .i64 b.seq, .bool b.txn, .bool b.con, .bool b.com, .slice b.q.1 b.q.2.1 b.q.2.2] := rfl
  rw [k9] at l1
  obtain ⟨n1, n2, n3⟩ := newB x b
  have hq' := hq.fr n3 (by simp)
  obtain ⟨v, hv⟩ : ∃ v, x.alloc (.cells b.cs.toArray 30) = v := ⟨_, rfl⟩
  rw [hv] at n1 n2 n3 hq'
  have hki : (i : Int) < (q.2.1 : Int) := by omega
  have c2 := (cs9 n2).c2
  have start : ∃ x', (if (b.pid == 0) = true then some (.normal, (f, (IntKind.i64.wrap ((i : Int) + 1))), v) else g3_l25 q (f, (i : Int)) x (f, 0, 0) v) = some (Exit.normal, (f, ((i + 1 : Nat) : Int)), x') ∧ Fr [] x x' := by
    by_cases hp : b.pid = 0
    · refine ⟨v, ?_, n3⟩
      have h1 : (b.pid == 0) = true := by simp [hp]
      rw [h1, hs]; simp
    · have h1 : (b.pid == 0) = false := by simp [hp]
      rcases ho with ho | ⟨o1, o2⟩
      · exact absurd ho hp
      obtain ⟨t, w', g1, rfl, fr, bk⟩ := loopS_countX 2 (b := g3_l25_b (f, (i : Int)) q x) (I := fun k s w => s = (f, nxt (L.take k) b.pid b.pe, (k : Int)) ∧ Fr [] v w ∧ Blk w x.heap.size b.cs 30) (n := i)
        (fun k s w hk ⟨hs, hf, hb⟩ => by
          subst hs
          obtain ⟨x', e, f'⟩ := once_in (s9 := (f, (i : Int))) (w10 := x) f rfl hn (hq'.fr hf (by simp)) hb hi hk o1
          exact ⟨_, x', e, rfl, (Fr.mono (Fr.app hf f') (by have z0_ := Fr.size hf; have z1_ := Fr.size f'; intro y_ hy_ hl_; grind [blkOf])), hb.fr f' (by simp)⟩)
        (fun s w ⟨hs, hf, hb⟩ => by
          subst hs
          unfold g3_l25_b
          simp) (k := 0) (s := (f, 0, 0)) (w := v) (Nat.zero_le _) ⟨rfl, Fr.refl [] v, n2⟩
      obtain ⟨_, _, _, _, c4, _, c6, _, _⟩ := cs9 bk
      refine ⟨w', ?_, (Fr.mono (Fr.app n3 fr) (by have z0_ := Fr.size n3; have z1_ := Fr.size fr; intro y_ hy_ hl_; grind [blkOf]))⟩
      rw [h1, if_neg (by simp), g3_l25_x2_of g1]
      unfold g3_l25_x2
      simp only [addr_add, Nat.zero_add]
      rw [c6, obs, asB_bool, obs]
      rcases o2 with o2 | o2
      · simp [o2, hs]
      · simp only [c4, obs, asI_int, o2, bne_self_eq_false, Bool.false_eq_true, if_false, hs, ite_self]
  obtain ⟨x', e, fr⟩ := start
  refine ⟨x', ?_, fr⟩
  rw [← e]
  unfold g3_l8_b
  simp only [hki, decide_true, if_true]
  rw [i1, obs, l1, obs]
  simp only [obs, asP_pointer, asB_bool, asI_int, asS_string, asSl_slice, asM_map, asTup0, asTup1, asTup2, asTup3, asTup4, asTup5, asTup6, asTup7, asTup8, asTup9, getD0, getD1, getD2, getD3, getD4, getD5, getD6, getD7, getD8, getD9, getD10, getD11, Bool.not_true, Bool.not_false, Bool.false_eq_true, Bool.true_eq_false, ↓reduceIte, decide_true, decide_false, Option.isNone_some, Option.isNone_none, Option.isSome_some, Option.isSome_none, beq_self_eq_true, bne_self_eq_false, Bool.and_true, Bool.true_and, Bool.and_false, Bool.false_and, not_true_eq_false, not_false_eq_true]
  rw [n1, obs]
  simp only [addr_add, Nat.zero_add, c2, obs, asP_pointer, asB_bool, asI_int, asS_string, asSl_slice, asM_map, asTup0, asTup1, asTup2, asTup3, asTup4, asTup5, asTup6, asTup7, asTup8, asTup9, getD0, getD1, getD2, getD3, getD4, getD5, getD6, getD7, getD8, getD9, getD10, getD11, Bool.not_true, Bool.not_false, Bool.false_eq_true, Bool.true_eq_false, ↓reduceIte, decide_true, decide_false, Option.isNone_some, Option.isNone_none, Option.isSome_some, Option.isSome_none, beq_self_eq_true, bne_self_eq_false, Bool.and_true, Bool.true_and, Bool.and_false, Bool.false_and, not_true_eq_false, not_false_eq_true]

theorem ProdOnce_main (W : World) (x0 : (Ty.slice (.cons (.int .i64) (.cons (.int .i64) (.cons (.int .u64) (.cons (.int .i64) (.cons (.int .i64) (.cons .bool (.cons .bool (.cons .bool (.cons (.slice (.slice (.int .u8))) .nil)))))))))).Val) (h0 : (Ty.slice (.cons (.int .i64) (.cons (.int .i64) (.cons (.int .u64) (.cons (.int .i64) (.cons (.int .i64) (.cons .bool (.cons .bool (.cons .bool (.cons (.slice (.slice (.int .u8))) .nil)))))))))).At W [.slice x0.1.1 x0.1.2.1 x0.1.2.2] x0) (hs0 : Ty.Fits (.slice (.cons (.int .i64) (.cons (.int .i64) (.cons (.int .u64) (.cons (.int .i64) (.cons (.int .i64) (.cons .bool (.cons .bool (.cons .bool (.cons (.slice (.slice (.int .u8))) .nil)))))))))) x0) :
    ∃ w', callF Try.prog 3 #[.slice x0.1.1 x0.1.2.1 x0.1.2.2] W = some (.bool true, w') ∧ Fr [] W w' := by
  obtain ⟨w1, e1, f1⟩ := awake8 W
  obtain ⟨q, w2, D, e2, hL⟩ := laid9 h0 hs0 f1
  obtain ⟨hok, hxl⟩ := args_ok h0 hs0
  have hN : Nums (lay (x0.2.map toB)).1 (lay (x0.2.map toB)).2.2.1 := lay_nums (fun b hb' => (hok b hb').len)
  have hll := hL.log
  obtain ⟨s, hs⟩ : ∃ s, lay (x0.2.map toB) = s := ⟨_, rfl⟩
  rw [hs] at hL hN hll
  have hlen : s.2.2.1.length < 9223372036854775807 := by
    omega
  have hq0 := hL.own.len
  rw [logCs_len] at hq0
  obtain ⟨t, w3, g1, rfl, fr, ow⟩ := loopS_countX 0 (b := g3_l8_b q) (I := fun k s' w => s' = (false, (k : Int)) ∧ Fr [] w2 w ∧ Own w 30 9 q (logCs s.2.2.1)) (n := s.2.2.1.length)
    (fun k s' w hk ⟨hs', hf, ho⟩ => by
      subst hs'
      obtain ⟨x', e, f'⟩ := once_out false hlen ho hk (hN.once k hk)
      exact ⟨_, x', e, rfl, (Fr.mono (Fr.app hf f') (by have z0_ := Fr.size hf; have z1_ := Fr.size f'; intro y_ hy_ hl_; grind [blkOf])), ho.fr f' (by simp)⟩)
    (fun s' w ⟨hs', hf, ho⟩ => by
      subst hs'
      unfold g3_l8_b
      have : ¬ ((s.2.2.1.length : Int) < (q.2.1 : Int)) := by omega
      simp only [this, decide_false, Bool.false_eq_true, if_false]) (k := 0) (s := (false, 0)) (w := w2) (Nat.zero_le _) ⟨rfl, Fr.refl [] w2, hL.own⟩
  have hfr := hL.fr
  refine ⟨w3, g3_call ?_, (Fr.mono (Fr.app hfr fr) (by have z0_ := Fr.size hfr; have z1_ := Fr.size fr; intro y_ hy_ hl_; grind [blkOf]))⟩
  unfold g3
  rw [e1, obs]
  simp only [e2, g3_l8_x0_of g1, g3_l8_x0, obs, asP_pointer, asB_bool, asI_int, asS_string, asSl_slice, asM_map, asTup0, asTup1, asTup2, asTup3, asTup4, asTup5, asTup6, asTup7, asTup8, asTup9, getD0, getD1, getD2, getD3, getD4, getD5, getD6, getD7, getD8, getD9, getD10, getD11, Bool.not_true, Bool.not_false, Bool.false_eq_true, Bool.true_eq_false, ↓reduceIte, decide_true, decide_false, Option.isNone_some, Option.isNone_none, Option.isSome_some, Option.isSome_none, beq_self_eq_true, bne_self_eq_false, Bool.and_true, Bool.true_and, Bool.and_false, Bool.false_and, not_true_eq_false, not_false_eq_true]
end Go.Proofs.Ytliakpomlkgpnaa
