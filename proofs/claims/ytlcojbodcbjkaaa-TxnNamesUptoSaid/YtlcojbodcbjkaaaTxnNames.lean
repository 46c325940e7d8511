/-
  TxnNames: lemmas on what Go functions of this seat come to (for whatever arguments, as each says). No condition but those that stand in each lemma.
-/
import Derived.Test.YtlcojbodcbjkaaaTxnNe
import Derived.Test.YtlcojbodcbjkaaaTxnL6
namespace Go.Proofs.Ytlcojbodcbjkaaa
open Go Go.Ev
set_option maxRecDepth 100000
set_option linter.unusedVariables false
set_option linter.unusedSimpArgs false

theorem names_round {W x : World} {x0 : (Ty.slice RT).Val} (h0 : (Ty.slice RT).At W [.slice x0.1.1 x0.1.2.1 x0.1.2.2] x0) {tb : Nat} {D : Nat → Prop} {A : List (Int × TV)} {S k : Nat} (h : NS W x tb D A S) (hk : k < x0.2.length) (hS : S + (toR x0.2[k]).parts.length ≤ 100000000) :
    ∃ x' D', g6_l6_b x0.1 (some ⟨tb, 0, none⟩) (k : Int) x = some (.normal, ((k + 1 : Nat) : Int), x') ∧ NS W x' tb D' (apA A (toR x0.2[k])) (S + (toR x0.2[k]).parts.length) := by
  have hml : maxLen = 9223372036854775807 := by decide
  have hl1 : x0.2.length = x0.1.2.1 := h0.2.1
  have hl2 : x0.1.2.1 ≤ x0.1.2.2 := h0.2.2.1
  have hl3 : x0.1.2.2 ≤ maxLen := h0.2.2.2.1
  have hold : Old W x := (Old.refl W).fr h.fr (by simp)
  obtain ⟨⟨a, i1, l1, _⟩, sl⟩ := rec_at (at_old hold _ _ _ h0) hk
  generalize toR x0.2[k] = r at *
  generalize rqOf x0.2[k] = rq at *
  obtain ⟨x1, s1, b1, f1, d1⟩ := newR x r rq
  obtain ⟨v, x2, e2, o2, f2, n2⟩ := own12 x1 r (sl.fr f1 (fun _ y _ => by simp)) (by omega)
  have h2 := (h.step f1 (by simp)).step f2 (by simp)
  have z1 := f1.size
  obtain ⟨x3, D3, e3, h3, _⟩ := h2.apply o2.slC (fun _ y hy hd => by have := n2 y hy; have := h.tab.lt y hd; omega) hS
  have k1 : decide ((k : Int) < (x0.1.2.1 : Int)) = true := by simp; omega
  have hw := wrap_succ (n := k) (by omega)
  refine ⟨x3, D3, ?_, h3⟩
  simp only [RV.arg] at e2 e3
  simp only [RV.cs] at l1
  unfold g6_l6_b
  simp only [k1, i1, l1, s1, d1, e2, e3, hw, obs, asP_pointer, asB_bool, asI_int, asS_string, asSl_slice, asM_map, asTup0, asTup1, asTup2, asTup3, asTup4, asTup5, asTup6, asTup7, asTup8, asTup9, asAgg2, asAgg3, asAgg4, asAgg5, asAgg6, asAgg7, asAgg8, asAgg9, asAgg12, getD0, getD1, getD2, getD3, getD4, getD5, getD6, getD7, getD8, getD9, getD10, getD11, getD12, getD13, getD14, getD15, getD16, getD17, getD18, getD19, Bool.not_true, Bool.not_false, Bool.false_eq_true, Bool.true_eq_false, ↓reduceIte, decide_true, decide_false, Option.isNone_some, Option.isNone_none, Option.isSome_some, Option.isSome_none, beq_self_eq_true, bne_self_eq_false, Bool.and_true, Bool.true_and, Bool.and_false, Bool.false_and, not_true_eq_false, not_false_eq_true]

theorem TxnNames_main0 (W : World) (x0 : (Ty.slice RT).Val) (h0 : (Ty.slice RT).At W [.slice x0.1.1 x0.1.2.1 x0.1.2.2] x0) (hb : (Ty.slice RT).bulk x0 ≤ 1048576) :
    ∃ w', callF Try.prog 6 #[.slice x0.1.1 x0.1.2.1 x0.1.2.2] W = some (.bool true, w') ∧ Fr [] W w' := by
  have hml : maxLen = 9223372036854775807 := by decide
  have hl1 : x0.2.length = x0.1.2.1 := h0.2.1
  have hl2 : x0.1.2.1 ≤ x0.1.2.2 := h0.2.2.1
  have hl3 : x0.1.2.2 ≤ maxLen := h0.2.2.2.1
  have hbb : (x0.2.map RT.bulk).sum + 1 ≤ 1048576 := hb
  obtain ⟨w1, D1, e1, t1, f1, n1⟩ := new10 W
  obtain ⟨w2, e2, f2⟩ := awake11 w1
  have P0 : NS W w2 (W.heap.size + 1) D1 [] 0 := ⟨t1.fr f2 (by simp), (Fr.mono (Fr.app f1 f2) (by have z0_ := Fr.size f1; have z1_ := Fr.size f2; intro y_ hy_ hl_; grind [blkOf])), n1, fun n => Nat.le_refl _⟩
  -- all records go in
  obtain ⟨t, w3, g1, rfl, D3, A, P3, hnd, hmem, hAl⟩ := loopS_countX 0 (b := g6_l6_b x0.1 (some ⟨W.heap.size + 1, 0, none⟩)) (I := fun k s x => s = (k : Int) ∧ ∃ D A, NS W x (W.heap.size + 1) D A (wtR x0.2 k) ∧ (keysA A).Nodup ∧ (∀ n, n ∈ keysA A ↔ ∃ j, ∃ h : j < x0.2.length, j < k ∧ (toR x0.2[j]).tx = n) ∧ A.length ≤ k) (n := x0.2.length)
    (fun k s x hk ⟨hs, D, A, P, hnd, hmem, hAl⟩ => by
      subst hs
      have b1 := wtR_succ x0.2 hk
      have b2 := wtR_le x0.2 (k := k + 1) (by omega)
      have b3 := bulk_rec x0.2[k]
      obtain ⟨x', D', e, P'⟩ := names_round h0 P hk (by omega)
      have hal := apA_len A (toR x0.2[k])
      refine ⟨_, x', e, rfl, D', _, ⟨P'.tab, P'.fr, P'.hD, fun n => by have := P'.len n; omega⟩, keys_nodup hnd _, fun n => ?_, by omega⟩
      rw [keys_mem, hmem]
      constructor
      · rintro (⟨j, hj1, hj2, hj3⟩ | rfl)
        · exact ⟨j, hj1, by omega, hj3⟩
        · exact ⟨k, hk, by omega, rfl⟩
      · rintro ⟨j, hj1, hj2, hj3⟩
        by_cases ej : j = k
        · subst ej; exact .inr hj3.symm
        · exact .inl ⟨j, hj1, by omega, hj3⟩)
    (fun s x ⟨hs, _⟩ => by
      subst hs
      unfold g6_l6_b
      have : decide ((x0.2.length : Int) < (x0.1.2.1 : Int)) = false := by simp; omega
      simp only [this, Bool.false_eq_true, if_false]) (k := 0) (s := 0) (w := w2) (Nat.zero_le _) ⟨rfl, D1, [], P0, by simp [keysA], fun n => by simp [keysA], Nat.le_refl _⟩
  have bAll := wtR_le x0.2 (k := x0.2.length) (Nat.le_refl _)
  -- the names
  obtain ⟨q, w4, e4, o4, f4, n4⟩ := names25 P3.tab (by omega)
  have hA : A.map (·.1) = keysA A := rfl
  rw [hA] at o4
  obtain ⟨ns, hns⟩ : ∃ ns, isort (keysA A) = ns := ⟨_, rfl⟩
  rw [hns] at o4
  have hp : ns.Perm (keysA A) := by rw [← hns]; exact isort_perm _
  have hup : ns.Pairwise (· ≤ ·) := by rw [← hns]; exact isort_up _
  have hnn : ns.Nodup := (hp.nodup_iff).2 hnd
  have ol := o4.len
  have omx := o4.max
  have ole := o4.le
  simp only [intsV', List.length_map] at ol
  have F4 : Fr [] W w4 := (Fr.mono (Fr.app P3.fr f4) (by have z0_ := Fr.size P3.fr; have z1_ := Fr.size f4; intro y_ hy_ hl_; grind [blkOf]))
  have hold4 : Old W w4 := (Old.refl W).fr F4 (by simp)
  have h04 := at_old hold4 _ _ _ h0
  have nget : ∀ i (hi : i < ns.length), ∃ a, idxA q.1 q.2.1 1 (i : Int) = some a ∧ w4.cell? a = some (.int .i64 ns[i]) := by
    intro i hi
    obtain ⟨a, h1, h2⟩ := o4.slC.get (i := i) (by simpa using hi)
    exact ⟨a, h1, by rw [h2]; simp⟩
  -- each is one of a record, and they rise
  obtain ⟨t5, w5, gg5, rfl, rfl⟩ := loopS_countX 2 (b := g6_l45_b q x0.1) (I := fun k s x => s = (false, (k : Int)) ∧ x = w4) (n := ns.length)
    (fun k s x hk ⟨hs, hx⟩ => by
      subst hs hx
      obtain ⟨a, i1, c1⟩ := nget k hk
      have k1 : decide ((k : Int) < (q.2.1 : Int)) = true := by simp; omega
      have hw := wrap_succ (n := k) (by omega)
      have hm : ns[k] ∈ keysA A := hp.mem_iff.1 (List.getElem_mem hk)
      obtain ⟨j, hj1, _, hj3⟩ := (hmem _).1 hm
      have e26 := has26 h04 (n := ns[k]) ⟨j, hj1, hj3⟩
      refine ⟨(false, ((k + 1 : Nat) : Int)), x, ?_, rfl, rfl⟩
      by_cases h0k : 0 < k
      · have k2 : decide ((k : Int) > 0) = true := by simp; omega
        obtain ⟨b, i2, c2⟩ := nget (k - 1) (by omega)
        have hw2 : IntKind.i64.wrap ((k : Int) - 1) = ((k - 1 : Nat) : Int) := by rw [wrap_i64 (by omega) (by omega)]; omega
        have hlt : ns[k - 1] < ns[k] := by
          have h1 := List.pairwise_iff_getElem.1 hup (k - 1) k (by omega) hk (by omega)
          have h2 := List.pairwise_iff_getElem.1 hnn (k - 1) k (by omega) hk (by omega)
          omega
        have k3 : decide (ns[k - 1] ≥ ns[k]) = false := by simp; omega
        unfold g6_l45_b
        simp only [k1, i1, c1, e26, k2, hw2, i2, c2, k3, hw, obs, asP_pointer, asB_bool, asI_int, asS_string, asSl_slice, asM_map, asTup0, asTup1, asTup2, asTup3, asTup4, asTup5, asTup6, asTup7, asTup8, asTup9, asAgg2, asAgg3, asAgg4, asAgg5, asAgg6, asAgg7, asAgg8, asAgg9, asAgg12, getD0, getD1, getD2, getD3, getD4, getD5, getD6, getD7, getD8, getD9, getD10, getD11, getD12, getD13, getD14, getD15, getD16, getD17, getD18, getD19, Bool.not_true, Bool.not_false, Bool.false_eq_true, Bool.true_eq_false, ↓reduceIte, decide_true, decide_false, Option.isNone_some, Option.isNone_none, Option.isSome_some, Option.isSome_none, beq_self_eq_true, bne_self_eq_false, Bool.and_true, Bool.true_and, Bool.and_false, Bool.false_and, not_true_eq_false, not_false_eq_true]
      · have k2 : decide ((k : Int) > 0) = false := by simp; omega
        unfold g6_l45_b
        simp only [k1, i1, c1, e26, k2, hw, obs, asP_pointer, asB_bool, asI_int, asS_string, asSl_slice, asM_map, asTup0, asTup1, asTup2, asTup3, asTup4, asTup5, asTup6, asTup7, asTup8, asTup9, asAgg2, asAgg3, asAgg4, asAgg5, asAgg6, asAgg7, asAgg8, asAgg9, asAgg12, getD0, getD1, getD2, getD3, getD4, getD5, getD6, getD7, getD8, getD9, getD10, getD11, getD12, getD13, getD14, getD15, getD16, getD17, getD18, getD19, Bool.not_true, Bool.not_false, Bool.false_eq_true, Bool.true_eq_false, ↓reduceIte, decide_true, decide_false, Option.isNone_some, Option.isNone_none, Option.isSome_some, Option.isSome_none, beq_self_eq_true, bne_self_eq_false, Bool.and_true, Bool.true_and, Bool.and_false, Bool.false_and, not_true_eq_false, not_false_eq_true])
    (fun s x ⟨hs, hx⟩ => by
      subst hs
      unfold g6_l45_b
      have : decide ((ns.length : Int) < (q.2.1 : Int)) = false := by simp; omega
      simp only [this, Bool.false_eq_true, if_false]) (k := 0) (s := (false, 0)) (w := w4) (Nat.zero_le _) ⟨rfl, rfl⟩
  -- and each record's is there
  obtain ⟨t6, w6, gg6, rfl, F6⟩ := loopS_countX 4 (b := g6_l61_b x0.1 q) (I := fun k s x => s = (false, (k : Int)) ∧ Fr [] w5 x) (n := x0.2.length)
    (fun k s x hk ⟨hs, hF⟩ => by
      subst hs
      have hold5 : Old W x := (Old.refl W).fr ((Fr.mono (Fr.app F4 hF) (by have z0_ := Fr.size F4; have z1_ := Fr.size hF; intro y_ hy_ hl_; grind [blkOf])) : Fr [] W x) (by simp)
      obtain ⟨⟨a, i1, l1, _⟩, sl⟩ := rec_at (at_old hold5 _ _ _ h0) hk
      have hm : (toR x0.2[k]).tx ∈ ns := hp.mem_iff.2 ((hmem _).2 ⟨k, hk, hk, rfl⟩)
      generalize toR x0.2[k] = r at *
      generalize rqOf x0.2[k] = rq at *
      obtain ⟨x1, s1, b1, f1, d1⟩ := newR x r rq
      have c1 : x1.cell? ⟨x.heap.size, 1, none⟩ = some (.int .i64 r.tx) := b1.cell 1
      have k1 : decide ((k : Int) < (x0.1.2.1 : Int)) = true := by simp; omega
      have hw := wrap_succ (n := k) (by omega)
      have o1 := (o4.fr hF (by simp)).fr f1 (by simp)
      -- is it one of them?
      obtain ⟨t7, w7, gg7, rfl, rfl⟩ := loopS_countX 6 (b := g6_l75_b q x (false, (k : Int)) x0.1) (I := fun i s y => s = (decide (r.tx ∈ ns.take i), (i : Int)) ∧ y = x1) (n := ns.length)
        (fun i s y hi ⟨hs, hy⟩ => by
          subst hs hy
          obtain ⟨b, i2, c2⟩ := o1.slC.get (i := i) (by simpa using hi)
          have c2' : y.cell? b = some (.int .i64 ns[i]) := by rw [c2]; simp
          have k2 : decide ((i : Int) < (q.2.1 : Int)) = true := by simp; omega
          have hw2 := wrap_succ (n := i) (by omega)
          refine ⟨_, y, ?_, rfl, rfl⟩
          have hts : (r.tx ∈ ns.take (i + 1)) ↔ (r.tx ∈ ns.take i ∨ r.tx = ns[i]) := by
            rw [List.take_succ_eq_append_getElem hi, List.mem_append]; simp
          by_cases hmi : r.tx ∈ ns.take i
          · have k3 : decide (r.tx ∈ ns.take i) = true := by simp [hmi]
            have k4 : decide (r.tx ∈ ns.take (i + 1)) = true := by rw [decide_eq_true_eq, hts]; exact .inl hmi
            rw [k4]
            unfold g6_l75_b
            simp only [k2, i2, c2', k3, hw2, obs, asP_pointer, asB_bool, asI_int, asS_string, asSl_slice, asM_map, asTup0, asTup1, asTup2, asTup3, asTup4, asTup5, asTup6, asTup7, asTup8, asTup9, asAgg2, asAgg3, asAgg4, asAgg5, asAgg6, asAgg7, asAgg8, asAgg9, asAgg12, getD0, getD1, getD2, getD3, getD4, getD5, getD6, getD7, getD8, getD9, getD10, getD11, getD12, getD13, getD14, getD15, getD16, getD17, getD18, getD19, Bool.not_true, Bool.not_false, Bool.false_eq_true, Bool.true_eq_false, ↓reduceIte, decide_true, decide_false, Option.isNone_some, Option.isNone_none, Option.isSome_some, Option.isSome_none, beq_self_eq_true, bne_self_eq_false, Bool.and_true, Bool.true_and, Bool.and_false, Bool.false_and, not_true_eq_false, not_false_eq_true]
          · have k3 : decide (r.tx ∈ ns.take i) = false := by simp [hmi]
            have k4 : decide (r.tx ∈ ns.take (i + 1)) = (ns[i] == r.tx) := by
              rw [Bool.eq_iff_iff, decide_eq_true_eq, hts]
              simp [hmi]
              exact eq_comm
            rw [k4]
            unfold g6_l75_b
            simp only [k2, i2, c2', k3, addr_add, Nat.zero_add, c1, hw2, obs, asP_pointer, asB_bool, asI_int, asS_string, asSl_slice, asM_map, asTup0, asTup1, asTup2, asTup3, asTup4, asTup5, asTup6, asTup7, asTup8, asTup9, asAgg2, asAgg3, asAgg4, asAgg5, asAgg6, asAgg7, asAgg8, asAgg9, asAgg12, getD0, getD1, getD2, getD3, getD4, getD5, getD6, getD7, getD8, getD9, getD10, getD11, getD12, getD13, getD14, getD15, getD16, getD17, getD18, getD19, Bool.not_true, Bool.not_false, Bool.false_eq_true, Bool.true_eq_false, ↓reduceIte, decide_true, decide_false, Option.isNone_some, Option.isNone_none, Option.isSome_some, Option.isSome_none, beq_self_eq_true, bne_self_eq_false, Bool.and_true, Bool.true_and, Bool.and_false, Bool.false_and, not_true_eq_false, not_false_eq_true])
        (fun s y ⟨hs, hy⟩ => by
          subst hs
          unfold g6_l75_b
          have : decide ((ns.length : Int) < (q.2.1 : Int)) = false := by simp; omega
          simp only [this, Bool.false_eq_true, if_false]) (k := 0) (s := (false, 0)) (w := x1) (Nat.zero_le _) ⟨by simp, rfl⟩
      have k5 : decide (r.tx ∈ ns.take ns.length) = true := by rw [List.take_length]; simp [hm]
      refine ⟨(false, ((k + 1 : Nat) : Int)), w7, ?_, rfl, (Fr.mono (Fr.app hF f1) (by have z0_ := Fr.size hF; have z1_ := Fr.size f1; intro y_ hy_ hl_; grind [blkOf]))⟩
      simp only [RV.cs] at l1
      unfold g6_l61_b
      simp only [k1, i1, l1, s1, obs, asP_pointer, asB_bool, asI_int, asS_string, asSl_slice, asM_map, asTup0, asTup1, asTup2, asTup3, asTup4, asTup5, asTup6, asTup7, asTup8, asTup9, asAgg2, asAgg3, asAgg4, asAgg5, asAgg6, asAgg7, asAgg8, asAgg9, asAgg12, getD0, getD1, getD2, getD3, getD4, getD5, getD6, getD7, getD8, getD9, getD10, getD11, getD12, getD13, getD14, getD15, getD16, getD17, getD18, getD19, Bool.not_true, Bool.not_false, Bool.false_eq_true, Bool.true_eq_false, ↓reduceIte, decide_true, decide_false, Option.isNone_some, Option.isNone_none, Option.isSome_some, Option.isSome_none, beq_self_eq_true, bne_self_eq_false, Bool.and_true, Bool.true_and, Bool.and_false, Bool.false_and, not_true_eq_false, not_false_eq_true]
      rw [g6_l75_x6_of gg7]
      unfold g6_l75_x6
      simp only [k5, hw, obs, asP_pointer, asB_bool, asI_int, asS_string, asSl_slice, asM_map, asTup0, asTup1, asTup2, asTup3, asTup4, asTup5, asTup6, asTup7, asTup8, asTup9, asAgg2, asAgg3, asAgg4, asAgg5, asAgg6, asAgg7, asAgg8, asAgg9, asAgg12, getD0, getD1, getD2, getD3, getD4, getD5, getD6, getD7, getD8, getD9, getD10, getD11, getD12, getD13, getD14, getD15, getD16, getD17, getD18, getD19, Bool.not_true, Bool.not_false, Bool.false_eq_true, Bool.true_eq_false, ↓reduceIte, decide_true, decide_false, Option.isNone_some, Option.isNone_none, Option.isSome_some, Option.isSome_none, beq_self_eq_true, bne_self_eq_false, Bool.and_true, Bool.true_and, Bool.and_false, Bool.false_and, not_true_eq_false, not_false_eq_true])
    (fun s x ⟨hs, hF⟩ => by
      subst hs
      unfold g6_l61_b
      have : decide ((x0.2.length : Int) < (x0.1.2.1 : Int)) = false := by simp; omega
      simp only [this, Bool.false_eq_true, if_false]) (k := 0) (s := (false, 0)) (w := w5) (Nat.zero_le _) ⟨rfl, Fr.refl _ _⟩
  refine ⟨w6, g6_call ?_, (Fr.mono (Fr.app F4 F6) (by have z0_ := Fr.size F4; have z1_ := Fr.size F6; intro y_ hy_ hl_; grind [blkOf]))⟩
  unfold g6
  simp only [e1, e2, obs, asP_pointer, asB_bool, asI_int, asS_string, asSl_slice, asM_map, asTup0, asTup1, asTup2, asTup3, asTup4, asTup5, asTup6, asTup7, asTup8, asTup9, asAgg2, asAgg3, asAgg4, asAgg5, asAgg6, asAgg7, asAgg8, asAgg9, asAgg12, getD0, getD1, getD2, getD3, getD4, getD5, getD6, getD7, getD8, getD9, getD10, getD11, getD12, getD13, getD14, getD15, getD16, getD17, getD18, getD19, Bool.not_true, Bool.not_false, Bool.false_eq_true, Bool.true_eq_false, ↓reduceIte, decide_true, decide_false, Option.isNone_some, Option.isNone_none, Option.isSome_some, Option.isSome_none, beq_self_eq_true, bne_self_eq_false, Bool.and_true, Bool.true_and, Bool.and_false, Bool.false_and, not_true_eq_false, not_false_eq_true]
  rw [g6_l6_x0_of g1]
  unfold g6_l6_x0
  simp only [e4, obs, asP_pointer, asB_bool, asI_int, asS_string, asSl_slice, asM_map, asTup0, asTup1, asTup2, asTup3, asTup4, asTup5, asTup6, asTup7, asTup8, asTup9, asAgg2, asAgg3, asAgg4, asAgg5, asAgg6, asAgg7, asAgg8, asAgg9, asAgg12, getD0, getD1, getD2, getD3, getD4, getD5, getD6, getD7, getD8, getD9, getD10, getD11, getD12, getD13, getD14, getD15, getD16, getD17, getD18, getD19, Bool.not_true, Bool.not_false, Bool.false_eq_true, Bool.true_eq_false, ↓reduceIte, decide_true, decide_false, Option.isNone_some, Option.isNone_none, Option.isSome_some, Option.isSome_none, beq_self_eq_true, bne_self_eq_false, Bool.and_true, Bool.true_and, Bool.and_false, Bool.false_and, not_true_eq_false, not_false_eq_true]
  rw [g6_l45_x2_of gg5]
  unfold g6_l45_x2
  rw [g6_l61_x4_of gg6, g6_l61_x4]

theorem TxnNames_main (W : World) (x0 : (Ty.slice (.cons (.int .i64) (.cons (.int .i64) (.cons (.int .i64) (.cons (.int .u64) (.cons (.int .i64) (.cons (.slice (.int .i64)) (.cons .bool .nil)))))))).Val) (h0 : (Ty.slice (.cons (.int .i64) (.cons (.int .i64) (.cons (.int .i64) (.cons (.int .u64) (.cons (.int .i64) (.cons (.slice (.int .i64)) (.cons .bool .nil)))))))).At W [.slice x0.1.1 x0.1.2.1 x0.1.2.2] x0) (hb : (Ty.slice (.cons (.int .i64) (.cons (.int .i64) (.cons (.int .i64) (.cons (.int .u64) (.cons (.int .i64) (.cons (.slice (.int .i64)) (.cons .bool .nil)))))))).bulk x0 ≤ 1048576) :
    ∃ w', callF Try.prog 6 #[.slice x0.1.1 x0.1.2.1 x0.1.2.2] W = some (.bool true, w') ∧ Fr [] W w' := TxnNames_main0 W x0 h0 hb
end Go.Proofs.Ytlcojbodcbjkaaa
