/-
  ProdOpens: lemmas on what Go functions of this seat come to (for whatever arguments, as each says). No condition but those that stand in each lemma.
-/
import Derived.Test.YtliakpomlkgpnaaProdX
import Derived.Test.YtliakpomlkgpnaaProdL6
namespace Go.Proofs.Ytliakpomlkgpnaa
open Go Go.Ev
set_option maxRecDepth 100000
set_option linter.unusedVariables false
set_option linter.unusedSimpArgs false

/-- a copy of a batch in a block of its own -/
theorem newB2 (x : World) (b : BV) : stL (x.alloc (.cells #[.int .i64 0, .int .i64 0, .int .u64 0, .int .i64 0, .int .i64 0, .bool false, .bool false, .bool false, .slice none 0 0] 30)) ⟨x.heap.size, 0, none⟩ [.int .i64 b.base, .int .i64 b.ep, .int .u64 b.pid, .int .i64 b.pe, .int .i64 b.seq, .bool b.txn, .bool b.con, .bool b.com, .slice b.q.1 b.q.2.1 b.q.2.2] 0 = some (x.alloc (.cells b.cs.toArray 30)) ∧
    Blk (x.alloc (.cells b.cs.toArray 30)) x.heap.size b.cs 30 ∧ Fr [] x (x.alloc (.cells b.cs.toArray 30)) :=
  ⟨stL_new (vs := b.cs) rfl (by simp [BV.cs]), Blk.new x b.cs 30, Fr.alloc _⟩

theorem log_cell {w : World} {q : Option Addr × Nat × Nat} {l : List BV} (h : Own w 30 9 q (logCs l)) {k : Nat} (hk : k < l.length) : ∃ a, idxA q.1 q.2.1 9 (k : Int) = some a ∧ ∀ j (hj : j < 9), w.cell? (a.add j) = some ((l[k].cs)[j]'(by rw [bcs_len]; exact hj)) := by
  have hl := h.len
  rw [logCs_len] at hl
  obtain ⟨_, hc⟩ := h.slC
  obtain ⟨b, off, h1, h2, h3⟩ := hc (by rw [logCs_len]; omega)
  refine ⟨⟨b, off + k * 9, none⟩, ?_, fun j hj => ?_⟩
  · unfold idxA
    rw [if_pos (by omega), h1]
    simp only [Option.bind_some, addr_add, Int.toNat_natCast]
  · have hlt : 9 * k + j < (logCs l).length := by rw [logCs_len]; omega
    have := h3 (9 * k + j) hlt
    rw [logCs_get l k j hk hj hlt] at this
    rw [← this, addr_add]
    congr 2
    omega

theorem take_drop_succ {α : Type} (L : List α) {i k : Nat} (h : i ≤ k) (hk : k < L.length) : (L.take (k + 1)).drop i = (L.take k).drop i ++ [L[k]] := by
  rw [List.take_succ_eq_append_getElem hk, List.drop_append_of_le_length (by simp; omega)]


theorem closedIn_snoc (b c : BV) (R : List BV) : closedIn b (R ++ [c]) = (closedIn b R || (c.con && (c.pid == b.pid))) := by simp [closedIn]

theorem opens_in {x : World} {q : Option Addr × Nat × Nat} {s9 : Bool × Int × Bool × Int} {w10 : World} {p5 : Option Addr} {L : List BV} {b : BV} {k i : Nat} (hn : L.length < 9223372036854775806) (hq : Own x 30 9 q (logCs L)) (hb : Blk x w10.heap.size b.cs 30) (hi : i ≤ k) (hk : k < L.length) :
    g6_l27_b q w10 s9 p5 (closedIn b ((L.take k).drop i), (k : Int)) x = some (.normal, (closedIn b ((L.take (k + 1)).drop i), ((k + 1 : Nat) : Int)), x.drew) := by
  have hl := hq.len
  rw [logCs_len] at hl
  have hd := hq.fr (Fr.drew [] x) (by simp)
  obtain ⟨a, i1, l1⟩ := log_cell hd hk
  have hs := wrap_succ (n := k) (by omega)
  rw [take_drop_succ L hi hk, closedIn_snoc]
  obtain ⟨b0, _, b2, b3, b4, _, b6, _, b8⟩ := cs9 (hb.fr (Fr.drew [] x) (by simp))
  have c2 : x.drew.cell? (a.add 2) = some (.int .u64 L[k].pid) := l1 2 (by omega)
  have c6 : x.drew.cell? (a.add 6) = some (.bool L[k].con) := l1 6 (by omega)
  have hki : (k : Int) < (q.2.1 : Int) := by omega
  unfold g6_l27_b
  simp only [hki, decide_true, if_true]
  cases hc : closedIn b ((L.take k).drop i) with
  | true => simp only [if_true, hs, Bool.true_or]
  | false =>
    simp only [Bool.false_eq_true, if_false]
    rw [i1]
    simp only [obs]
    rw [c6]
    simp only [obs, asB_bool]
    cases hcon : L[k].con with
    | true => simp only [c2, addr_add, Nat.zero_add, b2, hs, obs, asP_pointer, asB_bool, asI_int, asS_string, asSl_slice, asM_map, asTup0, asTup1, asTup2, asTup3, asTup4, asTup5, asTup6, asTup7, asTup8, asTup9, getD0, getD1, getD2, getD3, getD4, getD5, getD6, getD7, getD8, getD9, getD10, getD11, Bool.not_true, Bool.not_false, Bool.false_eq_true, Bool.true_eq_false, ↓reduceIte, decide_true, decide_false, Option.isNone_some, Option.isNone_none, Option.isSome_some, Option.isSome_none, beq_self_eq_true, bne_self_eq_false, Bool.and_true, Bool.true_and, Bool.and_false, Bool.false_and, not_true_eq_false, not_false_eq_true]; simp
    | false => simp only [hs, obs, asP_pointer, asB_bool, asI_int, asS_string, asSl_slice, asM_map, asTup0, asTup1, asTup2, asTup3, asTup4, asTup5, asTup6, asTup7, asTup8, asTup9, getD0, getD1, getD2, getD3, getD4, getD5, getD6, getD7, getD8, getD9, getD10, getD11, Bool.not_true, Bool.not_false, Bool.false_eq_true, Bool.true_eq_false, ↓reduceIte, decide_true, decide_false, Option.isNone_some, Option.isNone_none, Option.isSome_some, Option.isSome_none, beq_self_eq_true, bne_self_eq_false, Bool.and_true, Bool.true_and, Bool.and_false, Bool.false_and, not_true_eq_false, not_false_eq_true]; simp

/-- what the loop has found -/
def acc (L : List BV) (i : Nat) : List BV := openW (L.take i) (L.drop i)
def accS (L : List BV) (i : Nat) : Bool × Int × Bool × Int := (false, ((acc L i).head?.map (·.base)).getD 0, !(acc L i).isEmpty, (i : Int))
theorem acc_succ (L : List BV) {i : Nat} (hi : i < L.length) : acc L (i + 1) = acc L i ++ (if isOp L[i] = true ∧ closedIn L[i] (L.drop (i + 1)) = false then [L[i]] else []) := by
  unfold acc
  rw [List.take_succ_eq_append_getElem hi, openW_snoc, ← List.drop_eq_getElem_cons hi]

theorem opens_out {x : World} {D : Nat → Prop} {tb : Nat} {A : List (Int × PV)} {abl : List Sn} {e : Int} {q : Option Addr × Nat × Nat} {L : List BV} {i : Nat} (ht : Tb x D tb A abl) (hn : L.length < 9223372036854775806) (hq : Own x 30 9 q (logCs L)) (hi : i < L.length) (hO : Opn A L e) :
    ∃ x', g6_l8_b q (some ⟨tb, 0, none⟩) (accS L i) x = some (.normal, accS L (i + 1), x') ∧ Fr [] x x' := by
  have hl := hq.len
  rw [logCs_len] at hl
  obtain ⟨a, i1, l1⟩ := log_at hq hi
  have hs := wrap_succ (n := i) (by omega)
  have hacc := acc_succ L hi
  have hopen := fun h1 h2 => opn_known hO (opens_mem hi h1 h2)
  obtain ⟨b, hb⟩ : ∃ b, L[i] = b := ⟨_, rfl⟩
  rw [hb] at l1 hacc hopen
  have k9 : b.cs = [.int .i64 b.base, .int .i64 b.ep, .int .u64 b.pid, .int .i64 b.pe, .int .i64 b.seq, .bool b.txn, .bool b.con, .bool b.com, .slice b.q.1 b.q.2.1 b.q.2.2] := rfl
  rw [k9] at l1
  obtain ⟨n1, n2, n3⟩ := newB2 x b
  have hq' := hq.fr n3 (by simp)
  have ht1 := ht.fr n3 (by simp)
  obtain ⟨v, hv⟩ : ∃ v, x.alloc (.cells b.cs.toArray 30) = v := ⟨_, rfl⟩
  rw [hv] at n1 n2 n3 hq' ht1
  have hki : (i : Int) < (q.2.1 : Int) := by omega
  obtain ⟨_, _, c2, _, _, c5, c6, _, _⟩ := cs9 n2
  have same : ¬ (isOp b = true ∧ closedIn b (L.drop (i + 1)) = false) → accS L (i + 1) = (false, ((acc L i).head?.map (·.base)).getD 0, !(acc L i).isEmpty, ((i + 1 : Nat) : Int)) := by
    intro h
    unfold accS
    rw [hacc, if_neg h, List.append_nil]
  have e0 : accS L i = (false, ((acc L i).head?.map (·.base)).getD 0, !(acc L i).isEmpty, (i : Int)) := rfl
  rw [e0]
  generalize hF : ((acc L i).head?.map (·.base)).getD 0 = F at same ⊢
  generalize hY : (!(acc L i).isEmpty) = Y at same ⊢
  cases htx : b.txn with
  | false =>
    rw [htx] at c5
    refine ⟨v, ?_, n3⟩
    rw [same (by simp [isOp, htx])]
    unfold g6_l8_b
    simp only [hki, decide_true, if_true]
    rw [i1, obs, l1, obs]
    simp only [obs, asP_pointer, asB_bool, asI_int, asS_string, asSl_slice, asM_map, asTup0, asTup1, asTup2, asTup3, asTup4, asTup5, asTup6, asTup7, asTup8, asTup9, getD0, getD1, getD2, getD3, getD4, getD5, getD6, getD7, getD8, getD9, getD10, getD11, Bool.not_true, Bool.not_false, Bool.false_eq_true, Bool.true_eq_false, ↓reduceIte, decide_true, decide_false, Option.isNone_some, Option.isNone_none, Option.isSome_some, Option.isSome_none, beq_self_eq_true, bne_self_eq_false, Bool.and_true, Bool.true_and, Bool.and_false, Bool.false_and, not_true_eq_false, not_false_eq_true]
    rw [n1, obs]
    simp only [addr_add, Nat.zero_add, c5, hs, obs, asP_pointer, asB_bool, asI_int, asS_string, asSl_slice, asM_map, asTup0, asTup1, asTup2, asTup3, asTup4, asTup5, asTup6, asTup7, asTup8, asTup9, getD0, getD1, getD2, getD3, getD4, getD5, getD6, getD7, getD8, getD9, getD10, getD11, Bool.not_true, Bool.not_false, Bool.false_eq_true, Bool.true_eq_false, ↓reduceIte, decide_true, decide_false, Option.isNone_some, Option.isNone_none, Option.isSome_some, Option.isSome_none, beq_self_eq_true, bne_self_eq_false, Bool.and_true, Bool.true_and, Bool.and_false, Bool.false_and, not_true_eq_false, not_false_eq_true]
  | true =>
    rw [htx] at c5
    cases hcon : b.con with
    | true =>
      rw [hcon] at c6
      refine ⟨v, ?_, n3⟩
      rw [same (by simp [isOp, hcon])]
      unfold g6_l8_b
      simp only [hki, decide_true, if_true]
      rw [i1, obs, l1, obs]
      simp only [obs, asP_pointer, asB_bool, asI_int, asS_string, asSl_slice, asM_map, asTup0, asTup1, asTup2, asTup3, asTup4, asTup5, asTup6, asTup7, asTup8, asTup9, getD0, getD1, getD2, getD3, getD4, getD5, getD6, getD7, getD8, getD9, getD10, getD11, Bool.not_true, Bool.not_false, Bool.false_eq_true, Bool.true_eq_false, ↓reduceIte, decide_true, decide_false, Option.isNone_some, Option.isNone_none, Option.isSome_some, Option.isSome_none, beq_self_eq_true, bne_self_eq_false, Bool.and_true, Bool.true_and, Bool.and_false, Bool.false_and, not_true_eq_false, not_false_eq_true]
      rw [n1, obs]
      simp only [addr_add, Nat.zero_add, c5, c6, hs, obs, asP_pointer, asB_bool, asI_int, asS_string, asSl_slice, asM_map, asTup0, asTup1, asTup2, asTup3, asTup4, asTup5, asTup6, asTup7, asTup8, asTup9, getD0, getD1, getD2, getD3, getD4, getD5, getD6, getD7, getD8, getD9, getD10, getD11, Bool.not_true, Bool.not_false, Bool.false_eq_true, Bool.true_eq_false, ↓reduceIte, decide_true, decide_false, Option.isNone_some, Option.isNone_none, Option.isSome_some, Option.isSome_none, beq_self_eq_true, bne_self_eq_false, Bool.and_true, Bool.true_and, Bool.and_false, Bool.false_and, not_true_eq_false, not_false_eq_true]
    | false =>
      rw [hcon] at c6
      obtain ⟨t, w2, g1, rfl, f2⟩ := loopS_countX 2 (b := g6_l27_b q x (false, F, Y, (i : Int)) (some ⟨tb, 0, none⟩)) (I := fun k s w => s = (closedIn b ((L.take k).drop (i + 1)), (k : Int)) ∧ Fr [] v w ∧ i + 1 ≤ k) (n := L.length)
        (fun k s w hk ⟨hs, hf, hik⟩ => by
          subst hs
          have e := opens_in (s9 := (false, F, Y, (i : Int))) (p5 := some ⟨tb, 0, none⟩) (w10 := x) hn (hq'.fr hf (by simp)) (n2.fr hf (by simp)) hik hk
          have fd := Fr.drew [] w
          exact ⟨_, _, e, rfl, (Fr.mono (Fr.app hf fd) (by have z0_ := Fr.size hf; have z1_ := Fr.size fd; intro y_ hy_ hl_; grind [blkOf])), by omega⟩)
        (fun s w ⟨hs, hf, _⟩ => by
          subst hs
          unfold g6_l27_b
          have : ¬ ((L.length : Int) < (q.2.1 : Int)) := by omega
          simp only [this, decide_false, Bool.false_eq_true, if_false]) (k := i + 1) (s := (false, ((i + 1 : Nat) : Int))) (w := v) (by omega) ⟨by rw [List.drop_eq_nil_of_le (by simp; omega)]; rfl, Fr.refl [] v, Nat.le_refl _⟩
      rw [List.take_length] at g1
      obtain ⟨f2, _⟩ := f2
      have ht2 := ht1.fr f2 (by simp)
      have bk2 := n2.fr f2 (by simp)
      obtain ⟨d0, _, d2, _, _, _, _, _, _⟩ := cs9 bk2
      cases hcl : closedIn b (L.drop (i + 1)) with
      | true =>
        rw [hcl] at g1
        refine ⟨w2, ?_, (Fr.mono (Fr.app n3 f2) (by have z0_ := Fr.size n3; have z1_ := Fr.size f2; intro y_ hy_ hl_; grind [blkOf]))⟩
        rw [same (by simp [hcl])]
        unfold g6_l8_b
        simp only [hki, decide_true, if_true]
        rw [i1, obs, l1, obs]
        simp only [obs, asP_pointer, asB_bool, asI_int, asS_string, asSl_slice, asM_map, asTup0, asTup1, asTup2, asTup3, asTup4, asTup5, asTup6, asTup7, asTup8, asTup9, getD0, getD1, getD2, getD3, getD4, getD5, getD6, getD7, getD8, getD9, getD10, getD11, Bool.not_true, Bool.not_false, Bool.false_eq_true, Bool.true_eq_false, ↓reduceIte, decide_true, decide_false, Option.isNone_some, Option.isNone_none, Option.isSome_some, Option.isSome_none, beq_self_eq_true, bne_self_eq_false, Bool.and_true, Bool.true_and, Bool.and_false, Bool.false_and, not_true_eq_false, not_false_eq_true]
        rw [n1, obs]
        simp only [addr_add, Nat.zero_add, c5, c6, hs, obs, asP_pointer, asB_bool, asI_int, asS_string, asSl_slice, asM_map, asTup0, asTup1, asTup2, asTup3, asTup4, asTup5, asTup6, asTup7, asTup8, asTup9, getD0, getD1, getD2, getD3, getD4, getD5, getD6, getD7, getD8, getD9, getD10, getD11, Bool.not_true, Bool.not_false, Bool.false_eq_true, Bool.true_eq_false, ↓reduceIte, decide_true, decide_false, Option.isNone_some, Option.isNone_none, Option.isSome_some, Option.isSome_none, beq_self_eq_true, bne_self_eq_false, Bool.and_true, Bool.true_and, Bool.and_false, Bool.false_and, not_true_eq_false, not_false_eq_true]
        rw [g6_l27_x2_of g1]
        unfold g6_l27_x2
        simp only [hs, obs, asP_pointer, asB_bool, asI_int, asS_string, asSl_slice, asM_map, asTup0, asTup1, asTup2, asTup3, asTup4, asTup5, asTup6, asTup7, asTup8, asTup9, getD0, getD1, getD2, getD3, getD4, getD5, getD6, getD7, getD8, getD9, getD10, getD11, Bool.not_true, Bool.not_false, Bool.false_eq_true, Bool.true_eq_false, ↓reduceIte, decide_true, decide_false, Option.isNone_some, Option.isNone_none, Option.isSome_some, Option.isSome_none, beq_self_eq_true, bne_self_eq_false, Bool.and_true, Bool.true_and, Bool.and_false, Bool.false_and, not_true_eq_false, not_false_eq_true]
      | false =>
        rw [hcl] at g1
        have hio : isOp b = true := by simp [isOp, htx, hcon]
        obtain ⟨hp, u, hk, hu0, hu1⟩ := hopen hio hcl
        obtain ⟨w3, e3, f3⟩ := known10 ht2 b.pid
        rw [hk] at e3
        simp only at e3
        have bk3 := bk2.fr f3 (by simp)
        have d0' := (cs9 bk3).c0
        rw [if_pos ⟨hio, hcl⟩] at hacc
        have k1 : decide (u.2.2.2 < 0) = false := by simp; omega
        have k2 : decide (u.2.2.2 > b.base) = false := by simp; omega
        have jj : ∀ (s9 : Bool × Int × Bool × Int) (x49 : Int) (x50 : Bool), s9.1 = false → s9.2.2.2 = (i : Int) → g6_j46 w2 x (some ⟨tb, 0, none⟩) s9 x49 x50 = some (.normal, (false, x49, x50, ((i + 1 : Nat) : Int)), w3) := by
          intro s9 x49 x50 hh1 hh2
          unfold g6_j46
          simp only [addr_add, Nat.zero_add, d2, e3, k1, k2, d0', hh1, hh2, hs, obs, asP_pointer, asB_bool, asI_int, asS_string, asSl_slice, asM_map, asTup0, asTup1, asTup2, asTup3, asTup4, asTup5, asTup6, asTup7, asTup8, asTup9, getD0, getD1, getD2, getD3, getD4, getD5, getD6, getD7, getD8, getD9, getD10, getD11, Bool.not_true, Bool.not_false, Bool.false_eq_true, Bool.true_eq_false, ↓reduceIte, decide_true, decide_false, Option.isNone_some, Option.isNone_none, Option.isSome_some, Option.isSome_none, beq_self_eq_true, bne_self_eq_false, Bool.and_true, Bool.true_and, Bool.and_false, Bool.false_and, not_true_eq_false, not_false_eq_true]
        have hend : accS L (i + 1) = (false, (if Y then F else b.base), true, ((i + 1 : Nat) : Int)) := by
          unfold accS
          rw [hacc, ← hF, ← hY]
          cases hA : acc L i with
          | nil => simp
          | cons c l => simp
        refine ⟨w3, ?_, (Fr.mono (Fr.app (Fr.app n3 f2) f3) (by have z0_ := Fr.size n3; have z1_ := Fr.size f2; have z2_ := Fr.size f3; intro y_ hy_ hl_; grind [blkOf]))⟩
        rw [hend]
        unfold g6_l8_b
        simp only [hki, decide_true, if_true]
        rw [i1, obs, l1, obs]
        simp only [obs, asP_pointer, asB_bool, asI_int, asS_string, asSl_slice, asM_map, asTup0, asTup1, asTup2, asTup3, asTup4, asTup5, asTup6, asTup7, asTup8, asTup9, getD0, getD1, getD2, getD3, getD4, getD5, getD6, getD7, getD8, getD9, getD10, getD11, Bool.not_true, Bool.not_false, Bool.false_eq_true, Bool.true_eq_false, ↓reduceIte, decide_true, decide_false, Option.isNone_some, Option.isNone_none, Option.isSome_some, Option.isSome_none, beq_self_eq_true, bne_self_eq_false, Bool.and_true, Bool.true_and, Bool.and_false, Bool.false_and, not_true_eq_false, not_false_eq_true]
        rw [n1, obs]
        simp only [addr_add, Nat.zero_add, c5, c6, hs, obs, asP_pointer, asB_bool, asI_int, asS_string, asSl_slice, asM_map, asTup0, asTup1, asTup2, asTup3, asTup4, asTup5, asTup6, asTup7, asTup8, asTup9, getD0, getD1, getD2, getD3, getD4, getD5, getD6, getD7, getD8, getD9, getD10, getD11, Bool.not_true, Bool.not_false, Bool.false_eq_true, Bool.true_eq_false, ↓reduceIte, decide_true, decide_false, Option.isNone_some, Option.isNone_none, Option.isSome_some, Option.isSome_none, beq_self_eq_true, bne_self_eq_false, Bool.and_true, Bool.true_and, Bool.and_false, Bool.false_and, not_true_eq_false, not_false_eq_true]
        rw [g6_l27_x2_of g1]
        unfold g6_l27_x2
        cases Y with
        | true => simp only [jj, obs, asP_pointer, asB_bool, asI_int, asS_string, asSl_slice, asM_map, asTup0, asTup1, asTup2, asTup3, asTup4, asTup5, asTup6, asTup7, asTup8, asTup9, getD0, getD1, getD2, getD3, getD4, getD5, getD6, getD7, getD8, getD9, getD10, getD11, Bool.not_true, Bool.not_false, Bool.false_eq_true, Bool.true_eq_false, ↓reduceIte, decide_true, decide_false, Option.isNone_some, Option.isNone_none, Option.isSome_some, Option.isSome_none, beq_self_eq_true, bne_self_eq_false, Bool.and_true, Bool.true_and, Bool.and_false, Bool.false_and, not_true_eq_false, not_false_eq_true]
        | false => simp only [d0, jj, obs, asP_pointer, asB_bool, asI_int, asS_string, asSl_slice, asM_map, asTup0, asTup1, asTup2, asTup3, asTup4, asTup5, asTup6, asTup7, asTup8, asTup9, getD0, getD1, getD2, getD3, getD4, getD5, getD6, getD7, getD8, getD9, getD10, getD11, Bool.not_true, Bool.not_false, Bool.false_eq_true, Bool.true_eq_false, ↓reduceIte, decide_true, decide_false, Option.isNone_some, Option.isNone_none, Option.isSome_some, Option.isSome_none, beq_self_eq_true, bne_self_eq_false, Bool.and_true, Bool.true_and, Bool.and_false, Bool.false_and, not_true_eq_false, not_false_eq_true]

theorem ProdOpens_main (W : World) (x0 : (Ty.slice (.cons (.int .i64) (.cons (.int .i64) (.cons (.int .u64) (.cons (.int .i64) (.cons (.int .i64) (.cons .bool (.cons .bool (.cons .bool (.cons (.slice (.slice (.int .u8))) .nil)))))))))).Val) (h0 : (Ty.slice (.cons (.int .i64) (.cons (.int .i64) (.cons (.int .u64) (.cons (.int .i64) (.cons (.int .i64) (.cons .bool (.cons .bool (.cons .bool (.cons (.slice (.slice (.int .u8))) .nil)))))))))).At W [.slice x0.1.1 x0.1.2.1 x0.1.2.2] x0) (hs0 : Ty.Fits (.slice (.cons (.int .i64) (.cons (.int .i64) (.cons (.int .u64) (.cons (.int .i64) (.cons (.int .i64) (.cons .bool (.cons .bool (.cons .bool (.cons (.slice (.slice (.int .u8))) .nil)))))))))) x0) :
    ∃ w', callF Try.prog 6 #[.slice x0.1.1 x0.1.2.1 x0.1.2.2] W = some (.bool true, w') ∧ Fr [] W w' := by
  obtain ⟨w1, e1, f1⟩ := awake8 W
  obtain ⟨q, w2, D, e2, hL⟩ := laid9 h0 hs0 f1
  obtain ⟨hok, hxl⟩ := args_ok h0 hs0
  have hN : Opn (lay (x0.2.map toB)).1 (lay (x0.2.map toB)).2.2.1 (lay (x0.2.map toB)).2.2.2 := lay_opn (fun b hb' => (hok b hb').len) (by simp; omega)
  have hll := hL.log
  obtain ⟨s, hs⟩ : ∃ s, lay (x0.2.map toB) = s := ⟨_, rfl⟩
  rw [hs] at hL hN hll
  have hlen : s.2.2.1.length < 9223372036854775806 := by omega
  have hq0 := hL.own.len
  rw [logCs_len] at hq0
  have hfr := hL.fr
  obtain ⟨t, w3, g1, rfl, fr⟩ := loopS_countX 0 (b := g6_l8_b q (some ⟨w1.heap.size + 1, 0, none⟩)) (I := fun k s' w => s' = accS s.2.2.1 k ∧ Fr [] w2 w) (n := s.2.2.1.length)
    (fun k s' w hk ⟨hs', hf⟩ => by
      subst hs'
      obtain ⟨x', e, f'⟩ := opens_out (hL.tab.fr hf (by simp)) hlen (hL.own.fr hf (by simp)) hk hN
      exact ⟨_, x', e, rfl, (Fr.mono (Fr.app hf f') (by have z0_ := Fr.size hf; have z1_ := Fr.size f'; intro y_ hy_ hl_; grind [blkOf]))⟩)
    (fun s' w ⟨hs', hf⟩ => by
      subst hs'
      unfold g6_l8_b
      have : ¬ ((accS s.2.2.1 s.2.2.1.length).2.2.2 < (q.2.1 : Int)) := by show ¬ ((s.2.2.1.length : Int) < _); omega
      simp only [this, decide_false, Bool.false_eq_true, if_false]) (k := 0) (s := (false, 0, false, 0)) (w := w2) (Nat.zero_le _) ⟨rfl, Fr.refl [] w2⟩
  obtain ⟨n, f, w4, e4, f4, a0, a1⟩ := unstable13 (hL.tab.fr fr (by simp))
  obtain ⟨z1, z2⟩ := opn_least hN a0 a1
  have ea : acc s.2.2.1 s.2.2.1.length = opens s.2.2.1 := by unfold acc opens; rw [List.take_length, List.drop_length]
  refine ⟨w4, g6_call ?_, (Fr.mono (Fr.app (Fr.app hfr fr) f4) (by have z0_ := Fr.size hfr; have z1_ := Fr.size fr; have z2_ := Fr.size f4; intro y_ hy_ hl_; grind [blkOf]))⟩
  unfold g6
  rw [e1, obs]
  simp only [e2, g6_l8_x0_of g1, g6_l8_x0, e4, obs, asP_pointer, asB_bool, asI_int, asS_string, asSl_slice, asM_map, asTup0, asTup1, asTup2, asTup3, asTup4, asTup5, asTup6, asTup7, asTup8, asTup9, getD0, getD1, getD2, getD3, getD4, getD5, getD6, getD7, getD8, getD9, getD10, getD11, Bool.not_true, Bool.not_false, Bool.false_eq_true, Bool.true_eq_false, ↓reduceIte, decide_true, decide_false, Option.isNone_some, Option.isNone_none, Option.isSome_some, Option.isSome_none, beq_self_eq_true, bne_self_eq_false, Bool.and_true, Bool.true_and, Bool.and_false, Bool.false_and, not_true_eq_false, not_false_eq_true]
  unfold accS
  simp only [ea]
  subst z1 z2
  simp
end Go.Proofs.Ytliakpomlkgpnaa
