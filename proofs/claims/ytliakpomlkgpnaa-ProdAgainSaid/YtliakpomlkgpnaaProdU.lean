/-
  ProdU: lemmas on what Go functions of this seat come to (for whatever arguments, as each says). No condition but those that stand in each lemma.
-/
import Derived.Test.YtliakpomlkgpnaaProdT
import Derived.Test.YtliakpomlkgpnaaProdL4
namespace Go.Proofs.Ytliakpomlkgpnaa
open Go Go.Ev
set_option maxRecDepth 100000
set_option linter.unusedVariables false
set_option linter.unusedSimpArgs false

/-- a copy of a batch in a block of its own -/
theorem newB2 (x : World) (b : BV) : stL (x.alloc (.cells #[.int .i64 0, .int .i64 0, .int .u64 0, .int .i64 0, .int .i64 0, .bool false, .bool false, .bool false, .slice none 0 0] 30)) ⟨x.heap.size, 0, none⟩ [.int .i64 b.base, .int .i64 b.ep, .int .u64 b.pid, .int .i64 b.pe, .int .i64 b.seq, .bool b.txn, .bool b.con, .bool b.com, .slice b.q.1 b.q.2.1 b.q.2.2] 0 = some (x.alloc (.cells b.cs.toArray 30)) ∧
    Blk (x.alloc (.cells b.cs.toArray 30)) x.heap.size b.cs 30 ∧ Fr [] x (x.alloc (.cells b.cs.toArray 30)) :=
  ⟨stL_new (vs := b.cs) rfl (by simp [BV.cs]), Blk.new x b.cs 30, Fr.alloc _⟩

theorem log_cell {w : World} {q : Option Addr × Nat × Nat} {l : List BV} (h : Own w 30 9 q (logCs l)) {k : Nat} (hk : k < l.length) : ∃ a, idxA q.1 q.2.1 9 (k : Int) = some a ∧ ∀ j (hj : j < 9), w.cell? (a.add j) = some ((l[k].cs)[j]'(by rw [bcs_len]; exact hj)) := by
  have hl := h.len
  rw [logCs_len] at hl
  obtain ⟨_, hc⟩ := h.slC
  obtain ⟨b, off, h1, h2, h3⟩ := hc (by rw [logCs_len]; omega)
  refine ⟨⟨b, off + k * 9, none⟩, ?_, fun j hj => ?_⟩
  · unfold idxA
    rw [if_pos (by omega), h1]
    simp only [Option.bind_some, addr_add, Int.toNat_natCast]
  · have hlt : 9 * k + j < (logCs l).length := by rw [logCs_len]; omega
    have := h3 (9 * k + j) hlt
    rw [logCs_get l k j hk hj hlt] at this
    rw [← this, addr_add]
    congr 2
    omega

theorem take_drop_succ {α : Type} (L : List α) {i k : Nat} (h : i ≤ k) (hk : k < L.length) : (L.take (k + 1)).drop i = (L.take k).drop i ++ [L[k]] := by
  rw [List.take_succ_eq_append_getElem hk, List.drop_append_of_le_length (by simp; omega)]

theorem again_in {x : World} {q : Option Addr × Nat × Nat} {s9 : Bool × Int} {w10 : World} {p5 : Option Addr} {n31 : Int} {b34 : Bool} {L : List BV} {b : BV} {k i : Nat} (hn : L.length < 9223372036854775806) (hq : Own x 30 9 q (logCs L)) (hb : Blk x w10.heap.size b.cs 30) (hi : i ≤ k) (hk : k < L.length) :
    g4_l35_b q w10 s9 p5 n31 b34 ((later ((L.take k).drop i) b.pid : Int), (k : Int)) x = some (.normal, ((later ((L.take (k + 1)).drop i) b.pid : Int), ((k + 1 : Nat) : Int)), x.drew) := by
  have hl := hq.len
  rw [logCs_len] at hl
  have hd := hq.fr (Fr.drew [] x) (by simp)
  obtain ⟨a, i1, l1⟩ := log_cell hd hk
  have hs := wrap_succ (n := k) (by omega)
  have hle : later ((L.take k).drop i) b.pid ≤ k := by
    unfold later
    have h1 := List.length_filter_le (fun c : BV => decide (c.pid = b.pid ∧ c.con = false)) ((L.take k).drop i)
    have h2 : ((L.take k).drop i).length ≤ k := by simp; omega
    omega
  have hs2 := wrap_succ (n := later ((L.take k).drop i) b.pid) (by omega)
  rw [take_drop_succ L hi hk, later_snoc]
  obtain ⟨b0, _, b2, b3, b4, _, b6, _, b8⟩ := cs9 (hb.fr (Fr.drew [] x) (by simp))
  have c2 : x.drew.cell? (a.add 2) = some (.int .u64 L[k].pid) := l1 2 (by omega)
  have c6 : x.drew.cell? (a.add 6) = some (.bool L[k].con) := l1 6 (by omega)
  have hki : (k : Int) < (q.2.1 : Int) := by omega
  generalize later ((L.take k).drop i) b.pid = N at hs2 hle ⊢
  unfold g4_l35_b
  simp only [hki, decide_true, if_true]
  rw [i1]
  simp only [obs]
  rw [c2]
  simp only [obs, asI_int, addr_add, Nat.zero_add]
  rw [b2]
  simp only [obs, asI_int]
  by_cases hp : L[k].pid = b.pid
  · have h1 : (L[k].pid == b.pid) = true := by simp [hp]
    simp only [h1, if_true]
    rw [c6]
    cases hcon : L[k].con with
    | true => simp only [hcon, hs, obs, asP_pointer, asB_bool, asI_int, asS_string, asSl_slice, asM_map, asTup0, asTup1, asTup2, asTup3, asTup4, asTup5, asTup6, asTup7, asTup8, asTup9, getD0, getD1, getD2, getD3, getD4, getD5, getD6, getD7, getD8, getD9, getD10, getD11, Bool.not_true, Bool.not_false, Bool.false_eq_true, Bool.true_eq_false, ↓reduceIte, decide_true, decide_false, Option.isNone_some, Option.isNone_none, Option.isSome_some, Option.isSome_none, beq_self_eq_true, bne_self_eq_false, Bool.and_true, Bool.true_and, Bool.and_false, Bool.false_and, not_true_eq_false, not_false_eq_true]; simp
    | false => simp only [hcon, hs, hs2, hp, obs, asP_pointer, asB_bool, asI_int, asS_string, asSl_slice, asM_map, asTup0, asTup1, asTup2, asTup3, asTup4, asTup5, asTup6, asTup7, asTup8, asTup9, getD0, getD1, getD2, getD3, getD4, getD5, getD6, getD7, getD8, getD9, getD10, getD11, Bool.not_true, Bool.not_false, Bool.false_eq_true, Bool.true_eq_false, ↓reduceIte, decide_true, decide_false, Option.isNone_some, Option.isNone_none, Option.isSome_some, Option.isSome_none, beq_self_eq_true, bne_self_eq_false, Bool.and_true, Bool.true_and, Bool.and_false, Bool.false_and, not_true_eq_false, not_false_eq_true]; simp
  · have h1 : (L[k].pid == b.pid) = false := by simp [hp]
    simp only [h1, Bool.false_eq_true, if_false, hp, false_and, hs]


theorem t28 : TSl Try.prog 28 61 1 24 := tsl_of Try.underlying28 (by kernel_rfl)

/-- what the second half of a round does: the batch with one more value -/
theorem again_more {W w3 : World} {D : Nat → Prop} {tb g : Nat} {A : List (Int × PV)} {abl : List Sn} {b : BV} (h : Tb w3 D tb A abl) (five : Five A) (hgD : ¬ D g) (hb0 : BOk W b) (hf : Fr [] W w3) (hgW : W.heap.size ≤ g) (hbn : b.vs.length ≤ 5864062014634) (bk : Blk w3 g b.cs 30) :
    ∃ (q1 q2 : Option Addr × Nat × Nat) (w4 w5 w6 w7 : World), callB Try.prog .append #[28, 28] 28 #[false, false] #[.slice (some ⟨w3.heap.size, 0, none⟩) 0 0, .slice b.q.1 b.q.2.1 b.q.2.2] (w3.alloc (.cells #[] 61)) = some (.slice q1.1 q1.2.1 q1.2.2, w4) ∧
      callB Try.prog .append #[28, 28] 28 #[false, false] #[.slice q1.1 q1.2.1 q1.2.2, .slice (some ⟨w4.heap.size, 0, none⟩) 1 1] (w4.alloc (.cells #[.slice none 0 0] 61)) = some (.slice q2.1 q2.2.1 q2.2.2, w5) ∧
      st1 w5 ⟨g, 8, none⟩ (.slice q2.1 q2.2.1 q2.2.2) = some w6 ∧ ldN w6 ⟨g, 0, none⟩ 0 9 = some [.int .i64 b.base, .int .i64 b.ep, .int .u64 b.pid, .int .i64 b.pe, .int .i64 b.seq, .bool b.txn, .bool b.con, .bool b.com, .slice q2.1 q2.2.1 q2.2.2] ∧
      callF Try.prog 11 #[.pointer (some ⟨tb, 0, none⟩), .agg #[.int .i64 b.base, .int .i64 b.ep, .int .u64 b.pid, .int .i64 b.pe, .int .i64 b.seq, .bool b.txn, .bool b.con, .bool b.com, .slice q2.1 q2.2.1 q2.2.2]] w6 = some (.tuple #[.int .i64 (chkA A { b with q := q2, vs := b.vs ++ [[]] }).1, .bool (chkA A { b with q := q2, vs := b.vs ++ [[]] }).2.1, .int .i64 (chkA A { b with q := q2, vs := b.vs ++ [[]] }).2.2], w7) ∧
      Fr [g] w3 w7 := by
  have lg := bk.lt
  have ltD := h.lt
  have hml : maxLen = 9223372036854775807 := by decide
  obtain ⟨B, hL, hB⟩ := hb0.ls
  have hb := hb0.fr hf
  have zW := hf.size
  obtain ⟨qs, l1, l2, l3, l4⟩ := hL.fr hf (by simp)
  have hbl := hb.len
  obtain ⟨q1, w4, e1, o1, f1, n1, m1⟩ := app_empty t28 l1 (by intro y hy; obtain ⟨z, _, rfl⟩ := List.mem_map.mp hy; rfl) (by omega) (by omega) 28 #[false, false]
  obtain ⟨q2, w5, e2, o2, f2, n2, m2⟩ := app_one t28 o1 (ys := [slV (none, 0, 0)]) rfl (by intro y hy; simp at hy; subst hy; rfl) (by omega) (by omega) 28 #[false, false]
  have z1 := f1.size
  have z2 := f2.size
  have F2 : Fr [] w3 w5 := (f1.app f2).mono (by intro y hy hl; simp at hy; have := n1 y hy; omega)
  have bk5 := bk.fr F2 (by simp)
  have s5 : st1 w5 ⟨g, 8, none⟩ (.slice q2.1 q2.2.1 q2.2.2) = some (w5.setCell ⟨g, 8, none⟩ (.slice q2.1 q2.2.1 q2.2.2)) := bk5.st1 (by simp [BV.cs]) rfl
  have f3 : Fr [g] w5 (w5.setCell ⟨g, 8, none⟩ (.slice q2.1 q2.2.1 q2.2.2)) := Fr.setCell
  have bk6 : Blk (w5.setCell ⟨g, 8, none⟩ (.slice q2.1 q2.2.1 q2.2.2)) g ({ b with q := q2, vs := b.vs ++ [[]] } : BV).cs 30 := bk5.set 8 (.slice q2.1 q2.2.1 q2.2.2)
  obtain ⟨w6, hw6⟩ : ∃ w6, w5.setCell ⟨g, 8, none⟩ (.slice q2.1 q2.2.1 q2.2.2) = w6 := ⟨_, rfl⟩
  rw [hw6] at s5 f3 bk6
  have F3 : Fr [g] w3 w6 := (F2.app f3).mono (by intro y hy hl; simpa using hy)
  have z3 := f3.size
  have gq2 : ∀ y ∈ blkOf q2, w3.heap.size ≤ y := fun y hy => by
    rcases n2 y hy with hh | hh
    · exact n1 y hh
    · omega
  have o6 := o2.fr f3 (fun y hy hm => by simp at hm; have := gq2 y hy; omega)
  have FW6 : Fr [g] W w6 := (hf.app F3).mono (by intro y hy hl; simpa using hy)
  have t6 := h.fr F3 (by intro y hy _; simp at hy; subst hy; exact hgD)
  have hl6 : Lst .u8 w6 (fun y => y < w6.heap.size) q2 (b.vs ++ [[]]) := by
    refine ⟨qs ++ [(none, 0, 0)], by rw [List.map_append]; exact o6.slC, by simp [l2], fun _ => own_lt o6, fun i hi hi' => ?_⟩
    by_cases hib : i < b.vs.length
    · obtain ⟨g1, g2, g3⟩ := l4 i hib (by omega)
      rw [List.getElem_append_left hib, List.getElem_append_left (by omega)]
      have zz := F3.size
      refine ⟨?_, g2, fun h0 y hy => by have := hB y (g3 h0 y hy); omega⟩
      exact g1.fr3 F3 (fun hh y hy hm => by simp at hm; have := hB y (g3 (by rw [g1.1]; exact hh) y hy); omega)
    · have : i = b.vs.length := by simp at hi; omega
      subst this
      simp only [List.getElem_append_right, Nat.le_refl, Nat.sub_self, List.getElem_cons_zero]
      simp only [← l2, List.getElem_append_right, Nat.le_refl, Nat.sub_self, List.getElem_cons_zero]
      exact ⟨⟨rfl, by simp⟩, by simp, by simp⟩
  have ok6 : BOk w6 { b with q := q2, vs := b.vs ++ [[]] } := ⟨⟨_, hl6, fun y hy => hy⟩, by simp; omega, hb0.r⟩
  obtain ⟨w7, e7, f7⟩ := check11 t6 ok6 (fun v hv => by have := five _ (kget_mem hv); exact Nat.lt_of_le_of_lt this (by decide))
  have l6 := blk_ldN bk6 (n := 9) (by simp [BV.cs])
  exact ⟨q1, q2, w4, w5, w6, w7, e1, e2, s5, l6, e7, (F3.app f7).mono (by intro y hy hl; simpa using hy)⟩

theorem again_out {W x : World} {D : Nat → Prop} {tb : Nat} {A : List (Int × PV)} {abl : List Sn} {q : Option Addr × Nat × Nat} {L : List BV} {i : Nat} (f : Bool) (ht : Tb x D tb A abl) (five : Five A) (hW : Fr [] W x) (hn : L.length < 9223372036854775806) (hq : Own x 30 9 q (logCs L)) (hi : i < L.length) (hok : BOk W L[i]) (hbn : L[i].vs.length ≤ 5864062014634)
    (hA : L[i].pid ≠ 0 → L[i].con = false → ∃ v, Agn A L i L[i] v) :
    ∃ x', g4_l8_b q (some ⟨tb, 0, none⟩) (f, (i : Int)) x = some (.normal, (f, ((i + 1 : Nat) : Int)), x') ∧ Fr [] x x' := by
  have hl := hq.len
  rw [logCs_len] at hl
  obtain ⟨a, i1, l1⟩ := log_at hq hi
  have hs := wrap_succ (n := i) (by omega)
  obtain ⟨b, hb⟩ : ∃ b, L[i] = b := ⟨_, rfl⟩
  rw [hb] at l1 hok hA hbn
  have k9 : b.cs = [.int .i64 b.base, .int .i64 b.ep, .int .u64 b.pid, .int .i64 b.pe, .int .i64 b.seq, .bool b.txn, .bool b.con, .bool b.com, .slice b.q.1 b.q.2.1 b.q.2.2] := rfl
  rw [k9] at l1
  obtain ⟨n1, n2, n3⟩ := newB2 x b
  have hq' := hq.fr n3 (by simp)
  have ht1 := ht.fr n3 (by simp)
  have ltD := ht.lt
  obtain ⟨v, hv⟩ : ∃ v, x.alloc (.cells b.cs.toArray 30) = v := ⟨_, rfl⟩
  rw [hv] at n1 n2 n3 hq' ht1
  have hki : (i : Int) < (q.2.1 : Int) := by omega
  obtain ⟨_, _, c2, _, _, _, c6, _, _⟩ := cs9 n2
  by_cases hp : b.pid = 0
  · refine ⟨v, ?_, n3⟩
    have h1 : (b.pid == 0) = true := by simp [hp]
    unfold g4_l8_b
    simp only [hki, decide_true, if_true]
    rw [i1, obs, l1, obs]
    simp only [obs, asP_pointer, asB_bool, asI_int, asS_string, asSl_slice, asM_map, asTup0, asTup1, asTup2, asTup3, asTup4, asTup5, asTup6, asTup7, asTup8, asTup9, getD0, getD1, getD2, getD3, getD4, getD5, getD6, getD7, getD8, getD9, getD10, getD11, Bool.not_true, Bool.not_false, Bool.false_eq_true, Bool.true_eq_false, ↓reduceIte, decide_true, decide_false, Option.isNone_some, Option.isNone_none, Option.isSome_some, Option.isSome_none, beq_self_eq_true, bne_self_eq_false, Bool.and_true, Bool.true_and, Bool.and_false, Bool.false_and, not_true_eq_false, not_false_eq_true]
    rw [n1, obs]
    simp only [addr_add, Nat.zero_add, c2, h1, hs, obs, asP_pointer, asB_bool, asI_int, asS_string, asSl_slice, asM_map, asTup0, asTup1, asTup2, asTup3, asTup4, asTup5, asTup6, asTup7, asTup8, asTup9, getD0, getD1, getD2, getD3, getD4, getD5, getD6, getD7, getD8, getD9, getD10, getD11, Bool.not_true, Bool.not_false, Bool.false_eq_true, Bool.true_eq_false, ↓reduceIte, decide_true, decide_false, Option.isNone_some, Option.isNone_none, Option.isSome_some, Option.isSome_none, beq_self_eq_true, bne_self_eq_false, Bool.and_true, Bool.true_and, Bool.and_false, Bool.false_and, not_true_eq_false, not_false_eq_true]
  have h1 : (b.pid == 0) = false := by simp [hp]
  cases hcon : b.con with
  | true =>
    rw [hcon] at c6
    refine ⟨v, ?_, n3⟩
    unfold g4_l8_b
    simp only [hki, decide_true, if_true]
    rw [i1, obs, l1, obs]
    simp only [obs, asP_pointer, asB_bool, asI_int, asS_string, asSl_slice, asM_map, asTup0, asTup1, asTup2, asTup3, asTup4, asTup5, asTup6, asTup7, asTup8, asTup9, getD0, getD1, getD2, getD3, getD4, getD5, getD6, getD7, getD8, getD9, getD10, getD11, Bool.not_true, Bool.not_false, Bool.false_eq_true, Bool.true_eq_false, ↓reduceIte, decide_true, decide_false, Option.isNone_some, Option.isNone_none, Option.isSome_some, Option.isSome_none, beq_self_eq_true, bne_self_eq_false, Bool.and_true, Bool.true_and, Bool.and_false, Bool.false_and, not_true_eq_false, not_false_eq_true]
    rw [n1, obs]
    simp only [addr_add, Nat.zero_add, c2, h1, c6, hs, obs, asP_pointer, asB_bool, asI_int, asS_string, asSl_slice, asM_map, asTup0, asTup1, asTup2, asTup3, asTup4, asTup5, asTup6, asTup7, asTup8, asTup9, getD0, getD1, getD2, getD3, getD4, getD5, getD6, getD7, getD8, getD9, getD10, getD11, Bool.not_true, Bool.not_false, Bool.false_eq_true, Bool.true_eq_false, ↓reduceIte, decide_true, decide_false, Option.isNone_some, Option.isNone_none, Option.isSome_some, Option.isSome_none, beq_self_eq_true, bne_self_eq_false, Bool.and_true, Bool.true_and, Bool.and_false, Bool.false_and, not_true_eq_false, not_false_eq_true]
  | false =>
    rw [hcon] at c6
    obtain ⟨u, hg⟩ := hA hp hcon
    obtain ⟨w1, e1, f1⟩ := known10 ht1 b.pid
    rw [hg.is] at e1
    simp only at e1
    have hq1 := hq'.fr f1 (by simp)
    have bk1 := n2.fr f1 (by simp)
    obtain ⟨t, w2, g1, rfl, f2⟩ := loopS_countX 2 (b := g4_l35_b q x (f, (i : Int)) (some ⟨tb, 0, none⟩) u.1 true) (I := fun k s w => s = ((later ((L.take k).drop (i + 1)) b.pid : Int), (k : Int)) ∧ Fr [] w1 w ∧ i + 1 ≤ k) (n := L.length)
      (fun k s w hk ⟨hs, hf, hik⟩ => by
        subst hs
        have e := again_in (s9 := (f, (i : Int))) (p5 := some ⟨tb, 0, none⟩) (n31 := u.1) (b34 := true) (w10 := x) hn (hq1.fr hf (by simp)) (bk1.fr hf (by simp)) hik hk
        have fd := Fr.drew [] w
        exact ⟨_, _, e, rfl, (Fr.mono (Fr.app hf fd) (by have z0_ := Fr.size hf; have z1_ := Fr.size fd; intro y_ hy_ hl_; grind [blkOf])), by omega⟩)
      (fun s w ⟨hs, hf, _⟩ => by
        subst hs
        unfold g4_l35_b
        have : ¬ ((L.length : Int) < (q.2.1 : Int)) := by omega
        simp only [this, decide_false, Bool.false_eq_true, if_false]) (k := i + 1) (s := (0, ((i + 1 : Nat) : Int))) (w := w1) (by omega) ⟨by rw [List.drop_eq_nil_of_le (by simp; omega)]; rfl, Fr.refl [] w1, Nat.le_refl _⟩
    rw [List.take_length] at g1
    obtain ⟨f2, _⟩ := f2
    have ht2 := (ht1.fr f1 (by simp)).fr f2 (by simp)
    have bk2 := bk1.fr f2 (by simp)
    have FW2 : Fr [] W w2 := (Fr.mono (Fr.app (Fr.app (Fr.app hW n3) f1) f2) (by have z0_ := Fr.size hW; have z1_ := Fr.size n3; have z2_ := Fr.size f1; have z3_ := Fr.size f2; intro y_ hy_ hl_; grind [blkOf]))
    obtain ⟨w3, e3, f3⟩ := check11 ht2 (hok.fr FW2) (fun v hv => by have := five _ (kget_mem hv); exact Nat.lt_of_le_of_lt this (by decide))
    have l3 : ldN w2 ⟨x.heap.size, 0, none⟩ 0 9 = some [.int .i64 b.base, .int .i64 b.ep, .int .u64 b.pid, .int .i64 b.pe, .int .i64 b.seq, .bool b.txn, .bool b.con, .bool b.com, .slice b.q.1 b.q.2.1 b.q.2.2] := blk_ldN bk2 (n := 9) (by simp [BV.cs])
    have e3' : callF Try.prog 11 #[.pointer (some ⟨tb, 0, none⟩), .agg #[.int .i64 b.base, .int .i64 b.ep, .int .u64 b.pid, .int .i64 b.pe, .int .i64 b.seq, .bool b.txn, .bool b.con, .bool b.com, .slice b.q.1 b.q.2.1 b.q.2.2]] w2 = some (.tuple #[.int .i64 (chkA A b).1, .bool (chkA A b).2.1, .int .i64 (chkA A b).2.2], w3) := e3
    have FW3 : Fr [] W w3 := (Fr.mono (Fr.app FW2 f3) (by have z0_ := Fr.size FW2; have z1_ := Fr.size f3; intro y_ hy_ hl_; grind [blkOf]))
    have bk3 := bk2.fr f3 (by simp)
    have zW := hW.size
    obtain ⟨q1, q2, w4, w5, w6, w7, m1, m2, m3, m4, m5, m6⟩ := again_more (ht2.fr f3 (by simp)) five (g := x.heap.size) (fun hd => by have := ltD _ hd; omega) hok FW3 zW hbn bk3
    have hmore := hg.more q2 (b.vs ++ [[]]) (by simp)
    obtain ⟨d0, _, _, d3, _, _, _, _, _⟩ := cs9 bk3
    have d8 : (w3.alloc (.cells #[] 61)).cell? ⟨x.heap.size, 8, none⟩ = some (.slice b.q.1 b.q.2.1 b.q.2.2) := (cs9 (bk3.fr (Fr.alloc _) (by simp) : Blk (w3.alloc (.cells #[] 61)) x.heap.size b.cs 30)).c8
    have FX : Fr [] x w7 := (Fr.app ((Fr.mono (Fr.app (Fr.app (Fr.app n3 f1) f2) f3) (by have z0_ := Fr.size n3; have z1_ := Fr.size f1; have z2_ := Fr.size f2; have z3_ := Fr.size f3; intro y_ hy_ hl_; grind [blkOf])) : Fr [] x w3) m6).mono (by intro y hy hl; simp at hy; omega)
    refine ⟨w7, ?_, FX⟩
    have hfin : ∀ s, s = (f, (IntKind.i64.wrap ((i : Int) + 1))) → s = (f, ((i + 1 : Nat) : Int)) := by intro s h; rw [h, hs]
    unfold g4_l8_b
    simp only [hki, decide_true, if_true]
    rw [i1, obs, l1, obs]
    simp only [obs, asP_pointer, asB_bool, asI_int, asS_string, asSl_slice, asM_map, asTup0, asTup1, asTup2, asTup3, asTup4, asTup5, asTup6, asTup7, asTup8, asTup9, getD0, getD1, getD2, getD3, getD4, getD5, getD6, getD7, getD8, getD9, getD10, getD11, Bool.not_true, Bool.not_false, Bool.false_eq_true, Bool.true_eq_false, ↓reduceIte, decide_true, decide_false, Option.isNone_some, Option.isNone_none, Option.isSome_some, Option.isSome_none, beq_self_eq_true, bne_self_eq_false, Bool.and_true, Bool.true_and, Bool.and_false, Bool.false_and, not_true_eq_false, not_false_eq_true]
    rw [n1, obs]
    simp only [addr_add, Nat.zero_add, c2, h1, c6, e1, hs, obs, asP_pointer, asB_bool, asI_int, asS_string, asSl_slice, asM_map, asTup0, asTup1, asTup2, asTup3, asTup4, asTup5, asTup6, asTup7, asTup8, asTup9, getD0, getD1, getD2, getD3, getD4, getD5, getD6, getD7, getD8, getD9, getD10, getD11, Bool.not_true, Bool.not_false, Bool.false_eq_true, Bool.true_eq_false, ↓reduceIte, decide_true, decide_false, Option.isNone_some, Option.isNone_none, Option.isSome_some, Option.isSome_none, beq_self_eq_true, bne_self_eq_false, Bool.and_true, Bool.true_and, Bool.and_false, Bool.false_and, not_true_eq_false, not_false_eq_true]
    rw [g4_l35_x2_of g1]
    obtain ⟨_, hold, hle, hnow, hfar, _⟩ := hg
    generalize later (L.drop (i + 1)) b.pid = N at hnow hfar ⊢
    obtain ⟨c, hc⟩ : ∃ c, chkA A b = c := ⟨_, rfl⟩
    rw [hc] at e3' hold hnow hfar
    obtain ⟨c', hc'⟩ : ∃ c', chkA A { b with q := q2, vs := b.vs ++ [[]] } = c' := ⟨_, rfl⟩
    rw [hc'] at m5 hmore
    unfold g4_l35_x2
    rcases Int.lt_or_le b.pe u.1 with hlt | hge
    · have k1 : (u.1 == b.pe) = false := by simp; omega
      have k2 : decide (u.1 > b.pe) = true := by simp; omega
      have k3 : (c.2.2 != 10) = false := by simp [hold hlt]
      rw [l3, obs]
      simp only [addr_add, Nat.zero_add, obs, asP_pointer, asB_bool, asI_int, asS_string, asSl_slice, asM_map, asTup0, asTup1, asTup2, asTup3, asTup4, asTup5, asTup6, asTup7, asTup8, asTup9, getD0, getD1, getD2, getD3, getD4, getD5, getD6, getD7, getD8, getD9, getD10, getD11, Bool.not_true, Bool.not_false, Bool.false_eq_true, Bool.true_eq_false, ↓reduceIte, decide_true, decide_false, Option.isNone_some, Option.isNone_none, Option.isSome_some, Option.isSome_none, beq_self_eq_true, bne_self_eq_false, Bool.and_true, Bool.true_and, Bool.and_false, Bool.false_and, not_true_eq_false, not_false_eq_true]
      rw [e3', obs]
      simp only [d3, k1, k2, k3, d8, m1, m2, m3, m4, m5, hmore, hs, obs, asP_pointer, asB_bool, asI_int, asS_string, asSl_slice, asM_map, asTup0, asTup1, asTup2, asTup3, asTup4, asTup5, asTup6, asTup7, asTup8, asTup9, getD0, getD1, getD2, getD3, getD4, getD5, getD6, getD7, getD8, getD9, getD10, getD11, Bool.not_true, Bool.not_false, Bool.false_eq_true, Bool.true_eq_false, ↓reduceIte, decide_true, decide_false, Option.isNone_some, Option.isNone_none, Option.isSome_some, Option.isSome_none, beq_self_eq_true, bne_self_eq_false, Bool.and_true, Bool.true_and, Bool.and_false, Bool.false_and, not_true_eq_false, not_false_eq_true]
    · have he : u.1 = b.pe := by omega
      have k1 : (u.1 == b.pe) = true := by simp [he]
      have k2 : decide (u.1 > b.pe) = false := by simp; omega
      by_cases hN : N < 5
      · have k4 : decide ((N : Int) < 5) = true := by simp; omega
        have k5 : decide ((N : Int) ≥ 5) = false := by simp; omega
        have e5 := hnow he hN
        rw [e5] at e3'
        rw [l3, obs]
        simp only [addr_add, Nat.zero_add, obs, asP_pointer, asB_bool, asI_int, asS_string, asSl_slice, asM_map, asTup0, asTup1, asTup2, asTup3, asTup4, asTup5, asTup6, asTup7, asTup8, asTup9, getD0, getD1, getD2, getD3, getD4, getD5, getD6, getD7, getD8, getD9, getD10, getD11, Bool.not_true, Bool.not_false, Bool.false_eq_true, Bool.true_eq_false, ↓reduceIte, decide_true, decide_false, Option.isNone_some, Option.isNone_none, Option.isSome_some, Option.isSome_none, beq_self_eq_true, bne_self_eq_false, Bool.and_true, Bool.true_and, Bool.and_false, Bool.false_and, not_true_eq_false, not_false_eq_true]
        rw [e3', obs]
        simp only [d0, d3, k1, k2, k4, k5, d8, m1, m2, m3, m4, m5, hmore, hs, obs, asP_pointer, asB_bool, asI_int, asS_string, asSl_slice, asM_map, asTup0, asTup1, asTup2, asTup3, asTup4, asTup5, asTup6, asTup7, asTup8, asTup9, getD0, getD1, getD2, getD3, getD4, getD5, getD6, getD7, getD8, getD9, getD10, getD11, Bool.not_true, Bool.not_false, Bool.false_eq_true, Bool.true_eq_false, ↓reduceIte, decide_true, decide_false, Option.isNone_some, Option.isNone_none, Option.isSome_some, Option.isSome_none, beq_self_eq_true, bne_self_eq_false, Bool.and_true, Bool.true_and, Bool.and_false, Bool.false_and, not_true_eq_false, not_false_eq_true]
      · have k4 : decide ((N : Int) < 5) = false := by simp; omega
        have k5 : decide ((N : Int) ≥ 5) = true := by simp; omega
        have k3 : (c.2.2 != 11) = false := by simp [hfar he (by omega)]
        rw [l3, obs]
        simp only [addr_add, Nat.zero_add, obs, asP_pointer, asB_bool, asI_int, asS_string, asSl_slice, asM_map, asTup0, asTup1, asTup2, asTup3, asTup4, asTup5, asTup6, asTup7, asTup8, asTup9, getD0, getD1, getD2, getD3, getD4, getD5, getD6, getD7, getD8, getD9, getD10, getD11, Bool.not_true, Bool.not_false, Bool.false_eq_true, Bool.true_eq_false, ↓reduceIte, decide_true, decide_false, Option.isNone_some, Option.isNone_none, Option.isSome_some, Option.isSome_none, beq_self_eq_true, bne_self_eq_false, Bool.and_true, Bool.true_and, Bool.and_false, Bool.false_and, not_true_eq_false, not_false_eq_true]
        rw [e3', obs]
        simp only [d3, k1, k2, k3, k4, k5, d8, m1, m2, m3, m4, m5, hmore, hs, obs, asP_pointer, asB_bool, asI_int, asS_string, asSl_slice, asM_map, asTup0, asTup1, asTup2, asTup3, asTup4, asTup5, asTup6, asTup7, asTup8, asTup9, getD0, getD1, getD2, getD3, getD4, getD5, getD6, getD7, getD8, getD9, getD10, getD11, Bool.not_true, Bool.not_false, Bool.false_eq_true, Bool.true_eq_false, ↓reduceIte, decide_true, decide_false, Option.isNone_some, Option.isNone_none, Option.isSome_some, Option.isSome_none, beq_self_eq_true, bne_self_eq_false, Bool.and_true, Bool.true_and, Bool.and_false, Bool.false_and, not_true_eq_false, not_false_eq_true]

end Go.Proofs.Ytliakpomlkgpnaa
