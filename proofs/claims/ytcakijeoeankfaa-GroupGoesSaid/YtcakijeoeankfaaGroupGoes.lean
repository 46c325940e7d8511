/-
  GroupGoes: lemmas on what Go functions of this seat come to (for whatever arguments, as each says). No condition but those that stand in each lemma.
-/
import Derived.Test.YtcakijeoeankfaaGroupO
namespace Go.Proofs.Ytcakijeoeankfaa
open Go Go.Ev
set_option maxRecDepth 100000
set_option linter.unusedVariables false
set_option linter.unusedSimpArgs false

theorem getD_mem {l : List Int} {i : Nat} (h : i < l.length) : l.getD i 0 ∈ l := by
  rw [List.getD_eq_getElem?_getD, List.getElem?_eq_getElem h]
  exact List.getElem_mem h

theorem commit_round {w : World} {D : Nat → Prop} {b k : Nat} {T : List (Int × TV)} {s7 : Bool × Int × (Option Addr × Nat × Nat) × Int} {t97 : Bool × (Option Addr × Nat × Nat) × Int} {n30 m : Int} {u0 : Option Addr × Nat × Nat}
    (h : St w D b T []) (ho : Own w 3 1 t97.2.1 (intsV (teamG T 3).mem)) (hm : Int.tmod (IntKind.i64.wrap ((Int.tmod n30 12) + 12)) 12 = m) (hg0 : 0 ≤ s7.2.1 ∧ s7.2.1 < 9223372036854775807) (hg : (teamG T 3).gen = s7.2.1 + 1) (hk : k < 4) (hl : (teamG T 3).mem.length ≤ 12) :
    ∃ w', g7_l133_b (some ⟨b, 0, none⟩) n30 s7 t97 u0 (false, (k : Int)) w = some (.normal, (false, ((k + 1 : Nat) : Int)), w') ∧ Fr [] w w' := by
  have k0 : decide ((k : Int) < 4) = true := by simp; omega
  have w1 : IntKind.i64.wrap (s7.2.1 + 1) = s7.2.1 + 1 := wrap_i64 (by omega) (by omega)
  have w2 : IntKind.i64.wrap (s7.2.1 + 1 - 1) = s7.2.1 := by rw [show s7.2.1 + 1 - 1 = s7.2.1 by omega, wrap_i64 (by omega) (by omega)]
  have kw := wrap_succ (n := k) (by omega)
  obtain ⟨r1, x1, e1, f1⟩ := commit26 h (n := 3) (m := m) (g := s7.2.1 + 1) (o := 5) (p := k) (by omega) hk (by omega)
  obtain ⟨x2, s2, b2, f2, _⟩ := newG x1 r1 (none, 0, 0)
  have F2 : Fr [] w x2 := (Fr.mono (Fr.app f1 f2) (by have z0_ := Fr.size f1; have z1_ := Fr.size f2; intro y_ hy_ hl_; grind [blkOf]))
  have h2 := h.fr F2 (by simp)
  obtain ⟨r3, x3, e3, f3⟩ := commit26 h2 (n := 3) (m := m) (g := s7.2.1) (o := 5) (p := k) (by omega) hk (by omega)
  rw [if_neg (by rw [hg]; intro hh; omega)] at e3
  obtain ⟨x4, s4, b4, f4, _⟩ := newG x3 r3 (none, 0, 0)
  have F4 : Fr [] w x4 := (Fr.mono (Fr.app (Fr.app F2 f3) f4) (by have z0_ := Fr.size F2; have z1_ := Fr.size f3; have z2_ := Fr.size f4; intro y_ hy_ hl_; grind [blkOf]))
  have o4 := ho.fr F4 (by simp)
  have hq := o4.len
  simp only [intsV, List.length_map, Nat.mul_one] at hq
  refine ⟨x4, ?_, F4⟩
  simp only [GV.arg] at e1 e3
  obtain ⟨L, hL⟩ : ∃ L, (teamG T 3).mem = L := ⟨_, rfl⟩
  rw [hL] at e1 o4 hq hl
  have n15 : ((15 : Int) != 15) = false := rfl
  have n150 : ((15 : Int) == 0) = false := rfl
  have n150' : ((15 : Int) != 0) = true := rfl
  have n00 : ((0 : Int) == 0) = true := rfl
  have n00' : ((0 : Int) != 0) = false := rfl
  have ff : (false == false) = true := rfl
  have tt : (true == true) = true := rfl
  by_cases h0 : L.length = 0
  · have kp : decide ((t97.2.1.2.1 : Int) > 0) = false := by simp; omega
    rw [if_neg (by intro hh; have := List.eq_nil_of_length_eq_zero h0; rw [this] at hh; exact absurd hh.2.1 (by simp))] at e1
    unfold g7_l133_b
    simp only [k0, hm, w1, e1, s2, w2, e3, s4, kp, n150, ff, n150', n15, kw, obs, asP_pointer, asB_bool, asI_int, asS_string, asSl_slice, asM_map, asTup0, asTup1, asTup2, asTup3, asTup4, asTup5, asTup6, asTup7, asTup8, asTup9, asAgg2, asAgg3, asAgg4, asAgg5, asAgg6, asAgg7, asAgg8, asAgg9, asAgg12, getD0, getD1, getD2, getD3, getD4, getD5, getD6, getD7, getD8, getD9, getD10, getD11, getD12, getD13, getD14, getD15, getD16, getD17, getD18, getD19, Bool.not_true, Bool.not_false, Bool.false_eq_true, Bool.true_eq_false, ↓reduceIte, decide_true, decide_false, Option.isNone_some, Option.isNone_none, Option.isSome_some, Option.isSome_none, beq_self_eq_true, bne_self_eq_false, Bool.and_true, Bool.true_and, Bool.and_false, Bool.false_and, not_true_eq_false, not_false_eq_true]
  · have kp : decide ((t97.2.1.2.1 : Int) > 0) = true := by simp; omega
    have kz : ¬ ((t97.2.1.2.1 : Int) = 0) := by omega
    have hmod : k % L.length < L.length := Nat.mod_lt _ (by omega)
    obtain ⟨a, off, qa, i1, c1⟩ := ints_at o4 (i := k % L.length) hmod
    have i1' : idxA t97.2.1.1 t97.2.1.2.1 1 (Int.tmod (k : Int) (t97.2.1.2.1 : Int)) = some ⟨a, off + k % L.length, none⟩ := by
      have : t97.2.1.2.1 = L.length := by omega
      rw [this, tmod_nat _ _ (by omega), ← this]; rw [this] at i1 ⊢; exact i1
    have hown : ownerL L k = L.getD (k % L.length) 0 := by unfold ownerL; rw [if_neg h0]
    by_cases hy : L.getD (k % L.length) 0 = m
    · have ky : (L.getD (k % L.length) 0 == m) = true := by simp only [hy, beq_self_eq_true]
      rw [if_pos ⟨hg.symm, hy ▸ getD_mem hmod, hown.trans hy⟩] at e1
      unfold g7_l133_b
      simp only [k0, hm, w1, e1, s2, w2, e3, s4, kp, kz, i1', c1, ky, n00, tt, n00', n15, kw, obs, asP_pointer, asB_bool, asI_int, asS_string, asSl_slice, asM_map, asTup0, asTup1, asTup2, asTup3, asTup4, asTup5, asTup6, asTup7, asTup8, asTup9, asAgg2, asAgg3, asAgg4, asAgg5, asAgg6, asAgg7, asAgg8, asAgg9, asAgg12, getD0, getD1, getD2, getD3, getD4, getD5, getD6, getD7, getD8, getD9, getD10, getD11, getD12, getD13, getD14, getD15, getD16, getD17, getD18, getD19, Bool.not_true, Bool.not_false, Bool.false_eq_true, Bool.true_eq_false, ↓reduceIte, decide_true, decide_false, Option.isNone_some, Option.isNone_none, Option.isSome_some, Option.isSome_none, beq_self_eq_true, bne_self_eq_false, Bool.and_true, Bool.true_and, Bool.and_false, Bool.false_and, not_true_eq_false, not_false_eq_true]
    · have ky : (L.getD (k % L.length) 0 == m) = false := by simp only [beq_eq_false_iff_ne, ne_eq]; exact hy
      rw [if_neg (fun hh => hy (hown ▸ hh.2.2))] at e1
      unfold g7_l133_b
      simp only [k0, hm, w1, e1, s2, w2, e3, s4, kp, kz, i1', c1, ky, n150, ff, n150', n15, kw, obs, asP_pointer, asB_bool, asI_int, asS_string, asSl_slice, asM_map, asTup0, asTup1, asTup2, asTup3, asTup4, asTup5, asTup6, asTup7, asTup8, asTup9, asAgg2, asAgg3, asAgg4, asAgg5, asAgg6, asAgg7, asAgg8, asAgg9, asAgg12, getD0, getD1, getD2, getD3, getD4, getD5, getD6, getD7, getD8, getD9, getD10, getD11, getD12, getD13, getD14, getD15, getD16, getD17, getD18, getD19, Bool.not_true, Bool.not_false, Bool.false_eq_true, Bool.true_eq_false, ↓reduceIte, decide_true, decide_false, Option.isNone_some, Option.isNone_none, Option.isSome_some, Option.isSome_none, beq_self_eq_true, bne_self_eq_false, Bool.and_true, Bool.true_and, Bool.and_false, Bool.false_and, not_true_eq_false, not_false_eq_true]

theorem b193 : @g7_l193_b = @g7_l133_b := rfl

theorem commits {w : World} {D : Nat → Prop} {b : Nat} {T : List (Int × TV)} {s7 : Bool × Int × (Option Addr × Nat × Nat) × Int} {t97 : Bool × (Option Addr × Nat × Nat) × Int} {n30 m : Int} {u0 : Option Addr × Nat × Nat}
    (h : St w D b T []) (ho : Own w 3 1 t97.2.1 (intsV (teamG T 3).mem)) (hm : Int.tmod (IntKind.i64.wrap ((Int.tmod n30 12) + 12)) 12 = m) (hg0 : 0 ≤ s7.2.1 ∧ s7.2.1 < 9223372036854775807) (hg : (teamG T 3).gen = s7.2.1 + 1) (hl : (teamG T 3).mem.length ≤ 12) :
    ∃ w', loopS (g7_l133_b (some ⟨b, 0, none⟩) n30 s7 t97 u0) (false, 0) w = some (.exit 6, (false, 4), w') ∧ Fr [] w w' := by
  obtain ⟨t, w', g1, rfl, hF⟩ := loopS_countX 6 (b := g7_l133_b (some ⟨b, 0, none⟩) n30 s7 t97 u0) (n := 4)
    (I := fun k s y => s = (false, (k : Int)) ∧ Fr [] w y)
    (fun k s y hk ⟨hs, hF⟩ => by
      subst hs
      obtain ⟨y', e, f⟩ := commit_round (s7 := s7) (t97 := t97) (n30 := n30) (m := m) (u0 := u0) (h.fr hF (by simp)) (ho.fr hF (by simp)) hm hg0 hg hk hl
      exact ⟨_, y', e, rfl, (Fr.mono (Fr.app hF f) (by have z0_ := Fr.size hF; have z1_ := Fr.size f; intro y_ hy_ hl_; grind [blkOf]))⟩)
    (fun s y ⟨hs, _⟩ => by
      subst hs
      rfl) (k := 0) (s := (false, 0)) (w := w) (Nat.zero_le _) ⟨rfl, Fr.refl _ _⟩
  exact ⟨w', g1, hF⟩

/-- the record that was answered is told to the state -/
theorem tell2 {w : World} {D : Nat → Prop} {b : Nat} {T : List (Int × TV)} (h : St w D b T []) {r : GV} {q : Option Addr × Nat × Nat} (hq : SlI .i64 w q r.mem) (hr : r.Ok) (hb : ¬ badG r) :
    ∃ bt w3 w' D', callF Try.prog 21 #[.int .u64 0, .slice (some ⟨w.heap.size, 0, none⟩) 1 1] (w.alloc (.cells #[.int .i64 r.k, .int .i64 r.grp, .int .i64 r.gen, .slice q.1 q.2.1 q.2.2, .int .i64 r.part, .int .i64 r.off] 27)) = some (btA 0 false false false bt, w3) ∧
      callF Try.prog 20 #[.pointer (some ⟨b, 0, none⟩), btA 0 false false false bt] w3 = some (.tuple #[], w') ∧ St w' D' b (doT T r) [] ∧ Chg D w w' D' := by
  have hb' : ¬ 8 < r.mem.length := by unfold badG at hb; omega
  have fa : Fr [] w (w.alloc (.cells #[.int .i64 r.k, .int .i64 r.grp, .int .i64 r.gen, .slice q.1 q.2.1 q.2.2, .int .i64 r.part, .int .i64 r.off] 27)) := Fr.alloc _
  have ba := Blk.new w (r.cs q) 27
  change Blk (w.alloc (.cells #[.int .i64 r.k, .int .i64 r.grp, .int .i64 r.gen, .slice q.1 q.2.1 q.2.2, .int .i64 r.part, .int .i64 r.off] 27)) _ _ _ at ba
  obtain ⟨w2, hw2⟩ : ∃ w2, w.alloc (.cells #[.int .i64 r.k, .int .i64 r.grp, .int .i64 r.gen, .slice q.1 q.2.1 q.2.2, .int .i64 r.part, .int .i64 r.off] 27) = w2 := ⟨_, rfl⟩
  rw [hw2] at fa ba ⊢
  have su : SlC w2 6 (some ⟨w.heap.size, 0, none⟩, 1, 1) (r.cs q) := ⟨rfl, fun _ => ⟨w.heap.size, 0, rfl, ba.lt, fun i hi => by
    have := ba.cell i
    rw [Nat.zero_add, this]
    exact List.getElem?_eq_getElem hi⟩⟩
  obtain ⟨bt, e, w3, e3, ov, oe, f3, nv, ne⟩ := batch21 w2 (pid := 0) (u := (some ⟨w.heap.size, 0, none⟩, 1, 1)) rfl su (hq.fr3 fa (by simp)) hr hb
  have F3 : Fr [] w w3 := (Fr.mono (Fr.app fa f3) (by have z0_ := Fr.size fa; have z1_ := Fr.size f3; intro y_ hy_ hl_; grind [blkOf]))
  have hlt := h.lt
  have z2 : w.heap.size ≤ w2.heap.size := fa.size
  obtain ⟨w4, D4, e4, h4, C4⟩ := apply20 (h.fr F3 (by simp)) 0 ov.slC oe.slI hr hb (fun y hy hd => by have := nv y hy; have := hlt y hd; omega) (fun y hy hd => by have := ne y hy; have := hlt y hd; omega)
  refine ⟨bt, w3, w4, D4, e3, e4, h4, ?_⟩
  obtain ⟨S, f, hS⟩ := C4.fr
  have := F3.size
  refine ⟨⟨S, by simpa using F3.app f, hS⟩, C4.up, fun y hy => ?_⟩
  rcases C4.new y hy with hh | hh
  · exact .inl hh
  · exact .inr (by omega)

theorem teamG_do {T : List (Int × TV)} {g : Int} {l : List Int} (hg : (teamG T 3).gen < g) : teamG (doT T ⟨1, 3, g, l, 0, 0⟩) 3 = ⟨g, l, (teamG T 3).offs⟩ := by
  unfold teamG doT at *
  rw [kget_ups, if_pos rfl]
  simp only [Option.getD_some, stepG]
  rw [if_pos trivial, if_pos hg]

theorem riseB_up : ∀ {l : List Int} {x : Int}, (x :: l).Pairwise (· < ·) → riseB x l = true
  | [], _, _ => rfl
  | y :: l, x, h => by
    rw [List.pairwise_cons] at h
    have h1 := h.1 y (by simp)
    unfold riseB
    simp only [h1, decide_true, Bool.true_and, if_true]
    exact riseB_up h.2

structure GInv (W : World) (b : Nat) (k : Nat) (q : Option Addr × Nat × Nat) (g : Int) (w : World) : Prop where
  ex : ∃ (T : List (Int × TV)) (D : Nat → Prop) (l : List Int), St w D b T [] ∧ (teamG T 3).gen = g ∧ (teamG T 3).mem = l ∧ Own w 3 1 q (intsV l) ∧ l.Pairwise (· < ·) ∧ (∀ z ∈ l, 0 ≤ z ∧ z < 12) ∧ l.length ≤ 8 ∧ (∀ y ∈ blkOf q, ¬ D y) ∧ ∀ y, D y → W.heap.size ≤ y
  fr : Fr [] W w
  g : 0 ≤ g ∧ g ≤ (k : Int)

theorem now_len_in {l : List Int} {m : Int} (hl : l.Pairwise (· < ·)) (hr : ∀ z ∈ l, 0 ≤ z ∧ z < 12) (hm : 0 ≤ m ∧ m < 12) (hn : m ∉ l) : (nowL l m true 12).length = l.length + 1 := by
  rw [← now_in hl hr hm hn, (isort_perm _).length_eq]; simp
theorem now_len_out {l : List Int} {m : Int} (hl : l.Pairwise (· < ·)) (hr : ∀ z ∈ l, 0 ≤ z ∧ z < 12) : (nowL l m false 12).length ≤ l.length := by
  rw [← now_out hl hr]; exact without_len _ _

theorem goes_round {W w : World} {b k : Nat} {q : Option Addr × Nat × Nat} {g : Int} {x0 : (Ty.slice OT).Val} (h0 : (Ty.slice OT).At W [.slice x0.1.1 x0.1.2.1 x0.1.2.2] x0) (hlb : x0.2.length ≤ 9223372036854775807)
    (h : GInv W b k q g w) (hk : k < x0.2.length) :
    ∃ g' q' w', g7_l6_b x0.1 (some ⟨b, 0, none⟩) (false, g, q, (k : Int)) w = some (.normal, (false, g', q', ((k + 1 : Nat) : Int)), w') ∧ GInv W b (k + 1) q' g' w' := by
  obtain ⟨⟨T, D, l, hS, hg, hl, ho, hup, hr, h8, hqD, hD⟩, hF, hgk⟩ := h
  obtain ⟨a, o, i1, ld⟩ := ops_at h0 hF hk
  have hlen := h0.2.1
  have k0 : decide ((k : Int) < (x0.1.2.1 : Int)) = true := by simp; omega
  have kw := wrap_succ (n := k) (by omega)
  simp only [OV.cs] at ld
  obtain ⟨w1, s1, b1, f1⟩ := newOp w o
  have a2 : w1.cell? ⟨w.heap.size, 2, none⟩ = some (.int .i64 o.a2) := b1.cell 2
  have a6 : w1.cell? ⟨w.heap.size, 6, none⟩ = some (.bool o.a6) := b1.cell 6
  obtain ⟨m, hm⟩ : ∃ m, Int.tmod (IntKind.i64.wrap ((Int.tmod o.a2 12) + 12)) 12 = m := ⟨_, rfl⟩
  have hmr : 0 ≤ m ∧ m < 12 := by
    have q0 : -12 < Int.tmod o.a2 12 := by have := Int.lt_tmod_of_pos o.a2 (show (0 : Int) < 12 by omega); omega
    have q1 : Int.tmod o.a2 12 < 12 := Int.tmod_lt_of_pos o.a2 (by omega)
    rw [← hm, wrap_i64 (by omega) (by omega)]
    exact ⟨Int.tmod_nonneg 12 (by omega), Int.tmod_lt_of_pos _ (by omega)⟩
  have hS1 := hS.fr f1 (by simp)
  obtain ⟨q2, w2, e2, o2, f2, n2⟩ := join25 hS1 (n := 3) (m := m) (by omega) hmr.1 o.a6 (by rw [hl]; exact h8)
  obtain ⟨r, hrr⟩ : ∃ r, joinG (teamG T 3) 3 m o.a6 = r := ⟨_, rfl⟩
  rw [hrr] at e2 o2
  obtain ⟨w3, s3, b3, f3, l3⟩ := newG w2 r.1 q2
  have F2 : Fr [] w w2 := (Fr.mono (Fr.app f1 f2) (by have z0_ := Fr.size f1; have z1_ := Fr.size f2; intro y_ hy_ hl_; grind [blkOf]))
  have F3 : Fr [] w w3 := (Fr.mono (Fr.app F2 f3) (by have z0_ := Fr.size F2; have z1_ := Fr.size f3; intro y_ hy_ hl_; grind [blkOf]))
  have hB3 := (b1.fr f2 (by simp)).fr f3 (by simp)
  obtain ⟨v, w4, e4, o4, f4, n4⟩ := now45 (w := w3) (w8 := w) (s7 := (false, g, q, (k : Int))) (p2 := some ⟨b, 0, none⟩) (n30 := o.a2) (n43 := r.2.2) (m := m) (r33 := (.tuple #[r.1.arg q2, .bool r.2.1, .int .i64 r.2.2], w2)) (b42 := r.2.1) (stay := o.a6) (u0 := x0.1) (l := l)
    (ho.fr F3 (by simp)) (by omega) hm hmr hB3 rfl
  have F4 : Fr [] w w4 := (Fr.mono (Fr.app F3 f4) (by have z0_ := Fr.size F3; have z1_ := Fr.size f4; intro y_ hy_ hl_; grind [blkOf]))
  have b44 := hB3.fr f4 (by simp)
  have c6 : w4.cell? ⟨w.heap.size, 6, none⟩ = some (.bool o.a6) := b44.cell 6
  have b34 := b3.fr f4 (by simp)
  have FW4 : Fr [] W w4 := (Fr.mono (Fr.app hF F4) (by have z0_ := Fr.size hF; have z1_ := Fr.size F4; intro y_ hy_ hl_; grind [blkOf]))
  have hS4 := hS.fr F4 (by simp)
  have oq4 := ho.fr F4 (by simp)
  have hql := oq4.len
  simp only [intsV, List.length_map, Nat.mul_one] at hql
  simp only [GV.arg] at e2
  have e4' := e4
  -- the beginning of the round
  have pre : g7_l6_b x0.1 (some ⟨b, 0, none⟩) (false, g, q, (k : Int)) w = g7_l45_x2 w r.2.1 (false, g, q, (k : Int)) r.2.2 (.tuple #[r.1.arg q2, .bool r.2.1, .int .i64 r.2.2], w2) (some ⟨b, 0, none⟩) o.a2 x0.1 (decide (m ∈ l), v, 12) w4 := by
    unfold g7_l6_b
    simp only [k0, i1, ld, s1, addr_add, Nat.zero_add, a2, a6, hm, e2, s3, obs, asP_pointer, asB_bool, asI_int, asS_string, asSl_slice, asM_map, asTup0, asTup1, asTup2, asTup3, asTup4, asTup5, asTup6, asTup7, asTup8, asTup9, asAgg2, asAgg3, asAgg4, asAgg5, asAgg6, asAgg7, asAgg8, asAgg9, asAgg12, getD0, getD1, getD2, getD3, getD4, getD5, getD6, getD7, getD8, getD9, getD10, getD11, getD12, getD13, getD14, getD15, getD16, getD17, getD18, getD19, Bool.not_true, Bool.not_false, Bool.false_eq_true, Bool.true_eq_false, ↓reduceIte, decide_true, decide_false, Option.isNone_some, Option.isNone_none, Option.isSome_some, Option.isSome_none, beq_self_eq_true, bne_self_eq_false, Bool.and_true, Bool.true_and, Bool.and_false, Bool.false_and, not_true_eq_false, not_false_eq_true]
    exact g7_l45_x2_of e4
  have same : ∀ (h1 : r.1 = gv0) (h2 : r.2.1 = false) (h3 : r.2.2 = 0 ∨ r.2.2 = 3), g7_l45_x2 w r.2.1 (false, g, q, (k : Int)) r.2.2 (.tuple #[r.1.arg q2, .bool r.2.1, .int .i64 r.2.2], w2) (some ⟨b, 0, none⟩) o.a2 x0.1 (decide (m ∈ l), v, 12) w4 = some (.normal, (false, g, q, ((k + 1 : Nat) : Int)), w4) →
      ∃ g' q' w', g7_l6_b x0.1 (some ⟨b, 0, none⟩) (false, g, q, (k : Int)) w = some (.normal, (false, g', q', ((k + 1 : Nat) : Int)), w') ∧ GInv W b (k + 1) q' g' w' := by
    intro _ _ _ hx
    refine ⟨g, q, w4, pre.trans hx, ⟨T, D, l, hS4, hg, hl, oq4, hup, hr, h8, hqD, hD⟩, FW4, by omega⟩
  have n00 : ((0 : Int) != 0) = false := rfl
  have n03 : ((0 : Int) == 3) = false := rfl
  have n30 : ((3 : Int) != 0) = true := rfl
  have n33 : ((3 : Int) == 3) = true := rfl
  have n33' : ((3 : Int) != 3) = false := rfl
  have ff : (false == false) = true := rfl
  have tt : (true == true) = true := rfl
  have ft : (false == true) = false := rfl
  -- the end of a round that has changed the members
  have fin : ∀ (L : List Int), r = (⟨1, 3, g + 1, L, 0, 0⟩, true, 0) → nowL l m o.a6 12 = L → L.length ≤ 8 → L.Pairwise (· < ·) → (∀ z ∈ L, 0 ≤ z ∧ z < 12) →
      ∃ w5 bt w6 w7 w8 q' , callF Try.prog 24 #[.slice q2.1 q2.2.1 q2.2.2, .slice v.1 v.2.1 v.2.2] w4 = some (.bool true, w5) ∧ ldN w5 ⟨w2.heap.size, 0, none⟩ 0 6 = some (GV.cs ⟨1, 3, g + 1, L, 0, 0⟩ q2) ∧
        callF Try.prog 21 #[.int .u64 0, .slice (some ⟨w5.heap.size, 0, none⟩) 1 1] (w5.alloc (.cells #[.int .i64 1, .int .i64 3, .int .i64 (g + 1), .slice q2.1 q2.2.1 q2.2.2, .int .i64 0, .int .i64 0] 27)) = some (btA 0 false false false bt, w6) ∧
        callF Try.prog 20 #[.pointer (some ⟨b, 0, none⟩), btA 0 false false false bt] w6 = some (.tuple #[], w7) ∧
        loopS (g7_l133_b (some ⟨b, 0, none⟩) o.a2 (false, g, q, (k : Int)) (decide (m ∈ l), v, 12) x0.1) (false, 0) w7 = some (.exit 6, (false, 4), w8) ∧ q' = v ∧ GInv W b (k + 1) q' (g + 1) w8 := by
    intro L hrL hnow hL8 hLup hLr
    rw [hrL] at o2 b34
    have o24 := (o2.fr f3 (by simp)).fr f4 (by simp)
    rw [hnow] at o4
    obtain ⟨w5, e5, f5⟩ := same35 (xs := L) o24.slI o4.slI (by omega)
    have h5 := hS4.fr f5 (by simp)
    have o5 := o24.fr f5 (by simp)
    have ov5 := o4.fr f5 (by simp)
    have hbad : ¬ badG ⟨1, 3, g + 1, L, 0, 0⟩ := by
      have hrise : riseB (-1) L = true := riseB_up (by rw [List.pairwise_cons]; exact ⟨fun z hz => by have := hLr z hz; omega, hLup⟩)
      unfold badG
      simp only [hrise]
      simp; omega
    have hok : GV.Ok ⟨1, 3, g + 1, L, 0, 0⟩ := ⟨by show _ ≤ (1 : Int) ∧ (1 : Int) ≤ _; omega, by show _ ≤ (3 : Int) ∧ (3 : Int) ≤ _; omega, by show _ ≤ g + 1 ∧ g + 1 ≤ _; omega, by show _ ≤ (0 : Int) ∧ (0 : Int) ≤ _; omega, by show _ ≤ (0 : Int) ∧ (0 : Int) ≤ _; omega, fun z hz => by have := hLr z hz; omega⟩
    obtain ⟨bt, w6, w7, D7, e6, e7, h7, C7⟩ := tell2 h5 (r := ⟨1, 3, g + 1, L, 0, 0⟩) (q := q2) o5.slI hok hbad
    have ht7 : teamG (doT T ⟨1, 3, g + 1, L, 0, 0⟩) 3 = ⟨g + 1, L, (teamG T 3).offs⟩ := teamG_do (by rw [hg]; omega)
    obtain ⟨S7, f7, hS7⟩ := C7.fr
    have z4 := F4.size
    have z3 := F3.size
    have nv : ∀ y ∈ blkOf v, ¬ D y := fun y hy hd => by have := n4 y hy; have := hS.lt y hd; omega
    have ov7 := ov5.fr f7 (fun y hy hm => nv y hy (hS7 y hm))
    obtain ⟨w8, e8, f8⟩ := commits (s7 := (false, g, q, (k : Int))) (t97 := (decide (m ∈ l), v, 12)) (n30 := o.a2) (m := m) (u0 := x0.1) h7 (by rw [ht7]; exact ov7) hm (by show 0 ≤ g ∧ g < _; omega) (by rw [ht7]) (by rw [ht7]; show L.length ≤ 12; omega)
    have F5 : Fr [] W w5 := (Fr.mono (Fr.app FW4 f5) (by have z0_ := Fr.size FW4; have z1_ := Fr.size f5; intro y_ hy_ hl_; grind [blkOf]))
    have FW7 : Fr [] W w7 := (F5.app f7).mono (by intro y hy hl; simp at hy; have := hD y (hS7 y hy); omega)
    have z5 := F5.size
    refine ⟨w5, bt, w6, w7, w8, v, e5, (b34.fr f5 (by simp)).ldN (n := 6) rfl, e6, e7, e8, rfl, ⟨doT T ⟨1, 3, g + 1, L, 0, 0⟩, D7, L, h7.fr f8 (by simp), by rw [ht7], by rw [ht7], ov7.fr f8 (by simp), hLup, hLr, hL8, fun y hy hd => ?_, fun y hy => ?_⟩, (Fr.mono (Fr.app FW7 f8) (by have z0_ := Fr.size FW7; have z1_ := Fr.size f8; intro y_ hy_ hl_; grind [blkOf])), by omega⟩
    · rcases C7.new y hd with hh | hh
      · exact nv y hy hh
      · have := ov5.lt y hy; omega
    · rcases C7.new y hy with hh | hh
      · exact hD y hh
      · omega
  have wg : IntKind.i64.wrap (g + 1) = g + 1 := wrap_i64 (by omega) (by omega)
  by_cases hs : decide (m ∈ l) = o.a6
  · -- nothing changes
    have hrv : r = (gv0, false, 0) := by rw [← hrr]; unfold joinG; rw [hl, if_pos hs]
    have ks : (decide (m ∈ l) == o.a6) = true := by simp [hs]
    refine same (by rw [hrv]) (by rw [hrv]) (.inl (by rw [hrv])) ?_
    rw [hrv]
    unfold g7_l45_x2
    cases hmm : decide (m ∈ l) with
    | true =>
      rw [hmm] at ks
      simp only [addr_add, Nat.zero_add, c6, ks, n03, ff, n00, kw, obs, asP_pointer, asB_bool, asI_int, asS_string, asSl_slice, asM_map, asTup0, asTup1, asTup2, asTup3, asTup4, asTup5, asTup6, asTup7, asTup8, asTup9, asAgg2, asAgg3, asAgg4, asAgg5, asAgg6, asAgg7, asAgg8, asAgg9, asAgg12, getD0, getD1, getD2, getD3, getD4, getD5, getD6, getD7, getD8, getD9, getD10, getD11, getD12, getD13, getD14, getD15, getD16, getD17, getD18, getD19, Bool.not_true, Bool.not_false, Bool.false_eq_true, Bool.true_eq_false, ↓reduceIte, decide_true, decide_false, Option.isNone_some, Option.isNone_none, Option.isSome_some, Option.isSome_none, beq_self_eq_true, bne_self_eq_false, Bool.and_true, Bool.true_and, Bool.and_false, Bool.false_and, not_true_eq_false, not_false_eq_true]
    | false =>
      rw [hmm] at ks
      have hst : o.a6 = false := by rw [← hs]; exact hmm
      rw [hst] at c6 ks
      simp only [addr_add, Nat.zero_add, c6, ks, n03, ff, n00, kw, obs, asP_pointer, asB_bool, asI_int, asS_string, asSl_slice, asM_map, asTup0, asTup1, asTup2, asTup3, asTup4, asTup5, asTup6, asTup7, asTup8, asTup9, asAgg2, asAgg3, asAgg4, asAgg5, asAgg6, asAgg7, asAgg8, asAgg9, asAgg12, getD0, getD1, getD2, getD3, getD4, getD5, getD6, getD7, getD8, getD9, getD10, getD11, getD12, getD13, getD14, getD15, getD16, getD17, getD18, getD19, Bool.not_true, Bool.not_false, Bool.false_eq_true, Bool.true_eq_false, ↓reduceIte, decide_true, decide_false, Option.isNone_some, Option.isNone_none, Option.isSome_some, Option.isSome_none, beq_self_eq_true, bne_self_eq_false, Bool.and_true, Bool.true_and, Bool.and_false, Bool.false_and, not_true_eq_false, not_false_eq_true]
  · have ks : (decide (m ∈ l) == o.a6) = false := by
      cases hh : decide (m ∈ l) <;> cases hh2 : o.a6 <;> simp_all
    cases hst : o.a6 with
    | true =>
      rw [hst] at c6 ks hrr hs fin
      have hmn : decide (m ∈ l) = false := by cases hh : decide (m ∈ l) <;> simp_all
      have hmn' : m ∉ l := by simpa using hmn
      by_cases h8' : l.length = 8
      · have hrv : r = (gv0, false, 3) := by rw [← hrr]; unfold joinG; rw [hl, if_neg hs, if_pos rfl, if_pos h8']
        refine same (by rw [hrv]) (by rw [hrv]) (.inr (by rw [hrv])) ?_
        have k8 : ((q.2.1 : Int) == 8) = true := by rw [show q.2.1 = 8 by omega]; rfl
        rw [hrv]
        unfold g7_l45_x2
        simp only [addr_add, Nat.zero_add, c6, hmn, ft, k8, n33, tt, n30, n33', kw, obs, asP_pointer, asB_bool, asI_int, asS_string, asSl_slice, asM_map, asTup0, asTup1, asTup2, asTup3, asTup4, asTup5, asTup6, asTup7, asTup8, asTup9, asAgg2, asAgg3, asAgg4, asAgg5, asAgg6, asAgg7, asAgg8, asAgg9, asAgg12, getD0, getD1, getD2, getD3, getD4, getD5, getD6, getD7, getD8, getD9, getD10, getD11, getD12, getD13, getD14, getD15, getD16, getD17, getD18, getD19, Bool.not_true, Bool.not_false, Bool.false_eq_true, Bool.true_eq_false, ↓reduceIte, decide_true, decide_false, Option.isNone_some, Option.isNone_none, Option.isSome_some, Option.isSome_none, beq_self_eq_true, bne_self_eq_false, Bool.and_true, Bool.true_and, Bool.and_false, Bool.false_and, not_true_eq_false, not_false_eq_true]
      · have hrv : r = (⟨1, 3, g + 1, nowL l m true 12, 0, 0⟩, true, 0) := by
          rw [← hrr]; unfold joinG; rw [hl, if_neg hs, if_pos rfl, if_neg h8', now_in hup hr hmr hmn', hg, wg]
        have k8 : ((q.2.1 : Int) == 8) = false := by simp; omega
        obtain ⟨w5, bt, w6, w7, w8, q', e5, l5, e6, e7, e8, rfl, hI⟩ := fin _ hrv rfl (by rw [now_len_in hup hr hmr hmn']; omega) (nowL_up _ _ _ _) (fun z hz => by have := (nowL_mem.mp hz).1; omega)
        refine ⟨g + 1, q', w8, pre.trans ?_, hI⟩
        simp only [GV.cs] at l5
        rw [hrv] at b34
        have d2 : w4.cell? ⟨w2.heap.size, 2, none⟩ = some (.int .i64 (g + 1)) := b34.cell 2
        have d3 : w4.cell? ⟨w2.heap.size, 3, none⟩ = some (.slice q2.1 q2.2.1 q2.2.2) := b34.cell 3
        have ng : (g + 1 != g + 1) = false := by simp
        simp only [btA] at e6 e7
        rw [hrv]
        unfold g7_l45_x2
        simp only [addr_add, Nat.zero_add, c6, ks, k8, n00, d2, wg, ng, d3, e5, l5, e6, e7, obs, asP_pointer, asB_bool, asI_int, asS_string, asSl_slice, asM_map, asTup0, asTup1, asTup2, asTup3, asTup4, asTup5, asTup6, asTup7, asTup8, asTup9, asAgg2, asAgg3, asAgg4, asAgg5, asAgg6, asAgg7, asAgg8, asAgg9, asAgg12, getD0, getD1, getD2, getD3, getD4, getD5, getD6, getD7, getD8, getD9, getD10, getD11, getD12, getD13, getD14, getD15, getD16, getD17, getD18, getD19, Bool.not_true, Bool.not_false, Bool.false_eq_true, Bool.true_eq_false, ↓reduceIte, decide_true, decide_false, Option.isNone_some, Option.isNone_none, Option.isSome_some, Option.isSome_none, beq_self_eq_true, bne_self_eq_false, Bool.and_true, Bool.true_and, Bool.and_false, Bool.false_and, not_true_eq_false, not_false_eq_true]
        rw [g7_l133_x6_of e8]
        unfold g7_l133_x6
        simp only [wg, kw, obs, asP_pointer, asB_bool, asI_int, asS_string, asSl_slice, asM_map, asTup0, asTup1, asTup2, asTup3, asTup4, asTup5, asTup6, asTup7, asTup8, asTup9, asAgg2, asAgg3, asAgg4, asAgg5, asAgg6, asAgg7, asAgg8, asAgg9, asAgg12, getD0, getD1, getD2, getD3, getD4, getD5, getD6, getD7, getD8, getD9, getD10, getD11, getD12, getD13, getD14, getD15, getD16, getD17, getD18, getD19, Bool.not_true, Bool.not_false, Bool.false_eq_true, Bool.true_eq_false, ↓reduceIte, decide_true, decide_false, Option.isNone_some, Option.isNone_none, Option.isSome_some, Option.isSome_none, beq_self_eq_true, bne_self_eq_false, Bool.and_true, Bool.true_and, Bool.and_false, Bool.false_and, not_true_eq_false, not_false_eq_true]
    | false =>
      rw [hst] at c6 ks hrr hs fin
      have hmn : decide (m ∈ l) = true := by cases hh : decide (m ∈ l) <;> simp_all
      have hrv : r = (⟨1, 3, g + 1, nowL l m false 12, 0, 0⟩, true, 0) := by
        rw [← hrr]; unfold joinG; rw [hl, if_neg hs, if_neg (by simp), now_out hup hr, hg, wg]
      obtain ⟨w5, bt, w6, w7, w8, q', e5, l5, e6, e7, e8, rfl, hI⟩ := fin _ hrv rfl (Nat.le_trans (now_len_out hup hr) h8) (nowL_up _ _ _ _) (fun z hz => by have := (nowL_mem.mp hz).1; omega)
      refine ⟨g + 1, q', w8, pre.trans ?_, hI⟩
      simp only [GV.cs] at l5
      rw [hrv] at b34
      have d2 : w4.cell? ⟨w2.heap.size, 2, none⟩ = some (.int .i64 (g + 1)) := b34.cell 2
      have d3 : w4.cell? ⟨w2.heap.size, 3, none⟩ = some (.slice q2.1 q2.2.1 q2.2.2) := b34.cell 3
      have ng : (g + 1 != g + 1) = false := by simp
      simp only [btA] at e6 e7
      rw [hrv]
      unfold g7_l45_x2
      simp only [addr_add, Nat.zero_add, c6, ks, n00, d2, wg, ng, d3, e5, l5, e6, e7, obs, asP_pointer, asB_bool, asI_int, asS_string, asSl_slice, asM_map, asTup0, asTup1, asTup2, asTup3, asTup4, asTup5, asTup6, asTup7, asTup8, asTup9, asAgg2, asAgg3, asAgg4, asAgg5, asAgg6, asAgg7, asAgg8, asAgg9, asAgg12, getD0, getD1, getD2, getD3, getD4, getD5, getD6, getD7, getD8, getD9, getD10, getD11, getD12, getD13, getD14, getD15, getD16, getD17, getD18, getD19, Bool.not_true, Bool.not_false, Bool.false_eq_true, Bool.true_eq_false, ↓reduceIte, decide_true, decide_false, Option.isNone_some, Option.isNone_none, Option.isSome_some, Option.isSome_none, beq_self_eq_true, bne_self_eq_false, Bool.and_true, Bool.true_and, Bool.and_false, Bool.false_and, not_true_eq_false, not_false_eq_true]
      rw [← b193] at e8
      rw [g7_l193_x6_of e8]
      unfold g7_l193_x6
      simp only [wg, kw, obs, asP_pointer, asB_bool, asI_int, asS_string, asSl_slice, asM_map, asTup0, asTup1, asTup2, asTup3, asTup4, asTup5, asTup6, asTup7, asTup8, asTup9, asAgg2, asAgg3, asAgg4, asAgg5, asAgg6, asAgg7, asAgg8, asAgg9, asAgg12, getD0, getD1, getD2, getD3, getD4, getD5, getD6, getD7, getD8, getD9, getD10, getD11, getD12, getD13, getD14, getD15, getD16, getD17, getD18, getD19, Bool.not_true, Bool.not_false, Bool.false_eq_true, Bool.true_eq_false, ↓reduceIte, decide_true, decide_false, Option.isNone_some, Option.isNone_none, Option.isSome_some, Option.isSome_none, beq_self_eq_true, bne_self_eq_false, Bool.and_true, Bool.true_and, Bool.and_false, Bool.false_and, not_true_eq_false, not_false_eq_true]

theorem GroupGoes_main (W : World) (x0 : (Ty.slice OT).Val) (h0 : (Ty.slice OT).At W [.slice x0.1.1 x0.1.2.1 x0.1.2.2] x0) :
    ∃ w', callF Try.prog 7 #[.slice x0.1.1 x0.1.2.1 x0.1.2.2] W = some (.bool true, w') ∧ Fr [] W w' := by
  have hml : maxLen = 9223372036854775807 := by decide
  have hlb : x0.2.length ≤ 9223372036854775807 := by have h1 := h0.2.1; have h2 := h0.2.2.1; have h3 := h0.2.2.2.1; omega
  have hlen := h0.2.1
  obtain ⟨w1, D1, e1, h1, f1, n1⟩ := new19 W
  obtain ⟨w2, e2, f2⟩ := awake9 w1
  have h2 := h1.fr f2 (by simp)
  have F2 : Fr [] W w2 := (Fr.mono (Fr.app f1 f2) (by have z0_ := Fr.size f1; have z1_ := Fr.size f2; intro y_ hy_ hl_; grind [blkOf]))
  obtain ⟨t, w3, g1, g, q, rfl, hI⟩ := loopS_countX 0 (b := g7_l6_b x0.1 (some ⟨W.heap.size + 2, 0, none⟩)) (n := x0.2.length)
    (I := fun k s x => ∃ g q, s = (false, g, q, (k : Int)) ∧ GInv W (W.heap.size + 2) k q g x)
    (fun k s x hk ⟨g, q, hs, h⟩ => by
      subst hs
      obtain ⟨g', q', w', e, h'⟩ := goes_round h0 (by omega) h hk
      exact ⟨_, w', e, g', q', rfl, h'⟩)
    (fun s x ⟨g, q, hs, _⟩ => by
      subst hs
      unfold g7_l6_b
      have k0 : decide ((x0.2.length : Int) < (x0.1.2.1 : Int)) = false := by simp; omega
      simp only [k0, Bool.false_eq_true, if_false]) (k := 0) (s := (false, 0, (none, 0, 0), 0)) (w := w2) (Nat.zero_le _)
    ⟨0, (none, 0, 0), rfl, ⟨[], D1, [], h2, rfl, rfl, Own.nil _ _ _, List.Pairwise.nil, by simp, by simp, by simp [blkOf], n1⟩, F2, by omega⟩
  refine ⟨w3, g7_call ?_, hI.fr⟩
  unfold g7
  simp only [e1, e2, obs, asP_pointer, asB_bool, asI_int, asS_string, asSl_slice, asM_map, asTup0, asTup1, asTup2, asTup3, asTup4, asTup5, asTup6, asTup7, asTup8, asTup9, asAgg2, asAgg3, asAgg4, asAgg5, asAgg6, asAgg7, asAgg8, asAgg9, asAgg12, getD0, getD1, getD2, getD3, getD4, getD5, getD6, getD7, getD8, getD9, getD10, getD11, getD12, getD13, getD14, getD15, getD16, getD17, getD18, getD19, Bool.not_true, Bool.not_false, Bool.false_eq_true, Bool.true_eq_false, ↓reduceIte, decide_true, decide_false, Option.isNone_some, Option.isNone_none, Option.isSome_some, Option.isSome_none, beq_self_eq_true, bne_self_eq_false, Bool.and_true, Bool.true_and, Bool.and_false, Bool.false_and, not_true_eq_false, not_false_eq_true]
  rw [g7_l6_x0_of g1, g7_l6_x0]
end Go.Proofs.Ytcakijeoeankfaa
