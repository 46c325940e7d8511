/-
  GroupApart: lemmas on what Go functions of this seat come to (for whatever arguments, as each says). No condition but those that stand in each lemma.
-/
import Derived.Test.YtcakijeoeankfaaGroupL6
import Derived.Test.YtcakijeoeankfaaGroupK
namespace Go.Proofs.Ytcakijeoeankfaa
open Go Go.Ev
set_option maxRecDepth 100000
set_option linter.unusedVariables false
set_option linter.unusedSimpArgs false

theorem mem_le_sum : ∀ {l : List Nat} {a : Nat}, a ∈ l → a ≤ l.sum
  | [], a, h => by simp at h
  | b :: l, a, h => by
    rcases List.mem_cons.mp h with rfl | h
    · simp
    · have := mem_le_sum h
      simp only [List.sum_cons]; omega

abbrev RT : Ty := .cons (.int .i64) (.cons (.int .i64) (.cons (.int .i64) (.cons (.slice (.int .i64)) (.cons (.int .i64) (.cons (.int .i64) .nil)))))
def toG (x : RT.Val) : GV := ⟨x.1, x.2.1, x.2.2.1, x.2.2.2.1.2, x.2.2.2.2.1, x.2.2.2.2.2.1⟩

theorem rec_at {W w : World} {x0 : (Ty.slice RT).Val} (h0 : (Ty.slice RT).At W [.slice x0.1.1 x0.1.2.1 x0.1.2.2] x0) (hF : Fr [] W w) {k : Nat} (hk : k < x0.2.length) :
    ∃ a, idxA x0.1.1 x0.1.2.1 6 (k : Int) = some a ∧ ldN w a 0 6 = some ((toG x0.2[k]).cs x0.2[k].2.2.2.1.1) ∧ SlI .i64 w x0.2[k].2.2.2.1.1 (toG x0.2[k]).mem ∧ (toG x0.2[k]).Ok ∧ (toG x0.2[k]).mem.length ≤ 9223372036854775807 := by
  have hold : Old W w := (Old.refl W).fr hF (by simp)
  obtain ⟨a, cs, i1, g1, g2, g3⟩ := slice_get (at_old hold _ _ _ h0) hk
  obtain ⟨y, hy⟩ : ∃ y, x0.2[k] = y := ⟨_, rfl⟩
  rw [hy] at g3 ⊢
  obtain ⟨c0, c1, c2, ⟨q, vs⟩, c3, c4, _⟩ := y
  obtain ⟨e1, d1, rfl, _, ⟨rfl, h1⟩, e2, d2, rfl, _, ⟨rfl, h2⟩, e3, d3, rfl, _, ⟨rfl, h3⟩, e6, d6, rfl, _, hs, e4, d4, rfl, _, ⟨rfl, h4⟩, e5, d5, rfl, _, ⟨rfl, h5⟩, rfl⟩ := g3
  obtain ⟨psl, prg, _⟩ := slI_of_at (x := (q, vs)) ⟨rfl, hs.2⟩
  have hml : maxLen = 9223372036854775807 := by decide
  have plb : vs.length ≤ 9223372036854775807 := by have h1 := hs.2.1; have h2 := hs.2.2.1; have h3 := hs.2.2.2.1; simp only at h1 h2 h3; omega
  have hs6 := hs.1
  simp only at hs6
  subst hs6
  refine ⟨a, i1, g2.ldN (n := 6) rfl, psl, ⟨h1, h2, h3, h4, h5, prg⟩, ?_⟩
  exact plb

theorem freshG {W w w' : World} {D D' : Nat → Prop} (hF : Fr [] W w) (c : Chg D w w' D') (hD : ∀ y, D y → W.heap.size ≤ y) : Fr [] W w' ∧ ∀ y, D' y → W.heap.size ≤ y := by
  obtain ⟨S, f, hS⟩ := c.fr
  have n := c.new
  have z := hF.size
  refine ⟨(Fr.mono (Fr.app hF f) (by have z0_ := Fr.size hF; have z1_ := Fr.size f; intro y_ hy_ hl_; grind [blkOf])), fun y hy => ?_⟩
  rcases n y hy with hh | hh
  · exact hD y hh
  · omega

/-- a record is written to the log and told to a state -/
theorem tell {w : World} {D : Nat → Prop} {b : Nat} {T : List (Int × TV)} (h : St w D b T []) {r : GV} {q : Option Addr × Nat × Nat} (hq : SlI .i64 w q r.mem) (hr : r.Ok) (hb : ¬ badG r) :
    ∃ v w1 w2 bt w3 w' D', callF Try.prog 14 #[r.arg q] w = some (r.arg v, w1) ∧ w1.alloc (.cells #[.int .i64 r.k, .int .i64 r.grp, .int .i64 r.gen, .slice v.1 v.2.1 v.2.2, .int .i64 r.part, .int .i64 r.off] 27) = w2 ∧
      callF Try.prog 21 #[.int .u64 0, .slice (some ⟨w1.heap.size, 0, none⟩) 1 1] w2 = some (btA 0 false false false bt, w3) ∧ callF Try.prog 20 #[.pointer (some ⟨b, 0, none⟩), btA 0 false false false bt] w3 = some (.tuple #[], w') ∧
      St w' D' b (doT T r) [] ∧ Chg D w w' D' := by
  have hb' : ¬ 8 < r.mem.length := by unfold badG at hb; omega
  obtain ⟨v, w1, e1, o1, f1, n1⟩ := own14 w r hq (by omega)
  have fa : Fr [] w1 (w1.alloc (.cells #[.int .i64 r.k, .int .i64 r.grp, .int .i64 r.gen, .slice v.1 v.2.1 v.2.2, .int .i64 r.part, .int .i64 r.off] 27)) := Fr.alloc _
  have ba := Blk.new w1 (r.cs v) 27
  change Blk (w1.alloc (.cells #[.int .i64 r.k, .int .i64 r.grp, .int .i64 r.gen, .slice v.1 v.2.1 v.2.2, .int .i64 r.part, .int .i64 r.off] 27)) _ _ _ at ba
  obtain ⟨w2, hw2⟩ : ∃ w2, w1.alloc (.cells #[.int .i64 r.k, .int .i64 r.grp, .int .i64 r.gen, .slice v.1 v.2.1 v.2.2, .int .i64 r.part, .int .i64 r.off] 27) = w2 := ⟨_, rfl⟩
  rw [hw2] at fa ba
  have su : SlC w2 6 (some ⟨w1.heap.size, 0, none⟩, 1, 1) (r.cs v) := ⟨rfl, fun _ => ⟨w1.heap.size, 0, rfl, ba.lt, fun i hi => by
    have := ba.cell i
    rw [Nat.zero_add, this]
    exact List.getElem?_eq_getElem hi⟩⟩
  obtain ⟨bt, e, w3, e3, ov, oe, f3, nv, ne⟩ := batch21 w2 (pid := 0) (u := (some ⟨w1.heap.size, 0, none⟩, 1, 1)) rfl su (o1.fr fa (by simp)).slI hr hb
  have F3 : Fr [] w w3 := (Fr.mono (Fr.app (Fr.app f1 fa) f3) (by have z0_ := Fr.size f1; have z1_ := Fr.size fa; have z2_ := Fr.size f3; intro y_ hy_ hl_; grind [blkOf]))
  have hlt := h.lt
  have z2 : w.heap.size ≤ w2.heap.size := by have := f1.size; have := fa.size; omega
  obtain ⟨w4, D4, e4, h4, C4⟩ := apply20 (h.fr F3 (by simp)) 0 ov.slC oe.slI hr hb (fun y hy hd => by have := nv y hy; have := hlt y hd; omega) (fun y hy hd => by have := ne y hy; have := hlt y hd; omega)
  refine ⟨v, w1, w2, bt, w3, w4, D4, e1, hw2, e3, e4, h4, ?_⟩
  obtain ⟨S, f, hS⟩ := C4.fr
  have := F3.size
  refine ⟨⟨S, by simpa using F3.app f, hS⟩, C4.up, fun y hy => ?_⟩
  rcases C4.new y hy with hh | hh
  · exact .inl hh
  · exact .inr (by omega)

structure AInv (W : World) (b c : Nat) (n : Int) (w : World) : Prop where
  ex : ∃ (T U : List (Int × TV)) (D E : Nat → Prop), St w D b T [] ∧ St w E c U [] ∧ kget T n = kget U n ∧ (∀ y, D y → ¬ E y) ∧ (∀ y, D y → W.heap.size ≤ y) ∧ ∀ y, E y → W.heap.size ≤ y
  fr : Fr [] W w

theorem kget_do {T : List (Int × TV)} {r : GV} {n : Int} : kget (doT T r) n = if n = r.grp then some (stepG r ((kget T r.grp).getD tv0)) else kget T n := by
  unfold doT; rw [kget_ups]

theorem apart_round {W w : World} {b c k : Nat} {u1 : Int} (h1 : 0 ≤ u1 ∧ u1 ≤ 255) {x0 : (Ty.slice RT).Val} (h0 : (Ty.slice RT).At W [.slice x0.1.1 x0.1.2.1 x0.1.2.2] x0) 
    (h : AInv W b c (Int.tmod u1 8) w) (hk : k < x0.2.length) :
    ∃ w', g6_l8_b x0.1 (some ⟨b, 0, none⟩) u1 (some ⟨c, 0, none⟩) (k : Int) w = some (.normal, ((k + 1 : Nat) : Int), w') ∧ AInv W b c (Int.tmod u1 8) w' := by
  obtain ⟨⟨T, U, D, E, hD, hE, hTU, hDE, nD, nE⟩, hF⟩ := h
  obtain ⟨a, i1, ld, hq, hok, hml⟩ := rec_at h0 hF hk
  obtain ⟨r, hr⟩ : ∃ r, toG x0.2[k] = r := ⟨_, rfl⟩
  obtain ⟨q, hqq⟩ : ∃ q, x0.2[k].2.2.2.1.1 = q := ⟨_, rfl⟩
  rw [hr, hqq] at ld hq
  rw [hr] at hok hml
  have hl := h0.2.1
  have hmx : maxLen = 9223372036854775807 := by decide
  have hlb : x0.2.length ≤ 9223372036854775807 := by have h2 := h0.2.2.1; have h3 := h0.2.2.2.1; omega
  have k0 : decide ((k : Int) < (x0.1.2.1 : Int)) = true := by simp; omega
  have kw := wrap_succ (n := k) (by omega)
  have hp0 := Int.tmod_nonneg 8 h1.1
  have hp1 := Int.tmod_lt_of_pos u1 (show (0 : Int) < 8 by omega)
  obtain ⟨n, hn⟩ : ∃ n, Int.tmod u1 8 = n := ⟨_, rfl⟩
  rw [hn] at hp0 hp1 hTU ⊢
  have w1 : IntKind.i64.wrap n = n := wrap_i64 (by omega) (by omega)
  simp only [GV.cs] at ld
  obtain ⟨w2, s2, b2, f2, l2⟩ := newG w r q
  have F2W : Fr [] W w2 := (Fr.mono (Fr.app hF f2) (by have z0_ := Fr.size hF; have z1_ := Fr.size f2; intro y_ hy_ hl_; grind [blkOf]))
  obtain ⟨v3, w3, e3, o3, f3, n3⟩ := docenc12 w2 r (hq.fr3 f2 (by simp)) hok (by omega)
  have F3 : Fr [] w w3 := (Fr.mono (Fr.app f2 f3) (by have z0_ := Fr.size f2; have z1_ := Fr.size f3; intro y_ hy_ hl_; grind [blkOf]))
  have b3 := b2.fr f3 (by simp)
  have hD3 := hD.fr F3 (by simp)
  have hE3 := hE.fr F3 (by simp)
  simp only [GV.arg] at e3
  by_cases hbad : badG r
  · simp only [hbad, if_true] at e3
    have n1 : ((1 : Int) != 0) = true := rfl
    refine ⟨w3, ?_, ⟨⟨T, U, D, E, hD3, hE3, hTU, hDE, nD, nE⟩, (Fr.mono (Fr.app hF F3) (by have z0_ := Fr.size hF; have z1_ := Fr.size F3; intro y_ hy_ hl_; grind [blkOf]))⟩⟩
    unfold g6_l8_b
    simp only [k0, i1, ld, s2, l2, e3, n1, kw, obs, asP_pointer, asB_bool, asI_int, asS_string, asSl_slice, asM_map, asTup0, asTup1, asTup2, asTup3, asTup4, asTup5, asTup6, asTup7, asTup8, asTup9, asAgg2, asAgg3, asAgg4, asAgg5, asAgg6, asAgg7, asAgg8, asAgg9, asAgg12, getD0, getD1, getD2, getD3, getD4, getD5, getD6, getD7, getD8, getD9, getD10, getD11, getD12, getD13, getD14, getD15, getD16, getD17, getD18, getD19, Bool.not_true, Bool.not_false, Bool.false_eq_true, Bool.true_eq_false, ↓reduceIte, decide_true, decide_false, Option.isNone_some, Option.isNone_none, Option.isSome_some, Option.isSome_none, beq_self_eq_true, bne_self_eq_false, Bool.and_true, Bool.true_and, Bool.and_false, Bool.false_and, not_true_eq_false, not_false_eq_true]
  · simp only [hbad, if_false] at e3
    have n1 : ((0 : Int) != 0) = false := rfl
    have l3 := b3.ldN (n := 6) rfl
    simp only [GV.cs] at l3
    obtain ⟨v, x1, x2, bt, x3, x4, D', a1, a2, a3, a4, hD', CD⟩ := tell hD3 (hq.fr3 F3 (by simp)) hok hbad
    simp only [GV.arg, btA] at a1 a3 a4
    obtain ⟨S4, g4, hS4⟩ := CD.fr
    have hnDw : ∀ y, D y → y < w.heap.size := hD.lt
    have hltE : ∀ y, E y → y < w.heap.size := hE.lt
    have b4 := b3.fr g4 (fun hm => by have := hnDw _ (hS4 _ hm); omega)
    have c4 : x4.cell? ⟨w.heap.size, 1, none⟩ = some (.int .i64 r.grp) := b4.cell 1
    have hE4 := hE3.fr g4 (fun y hy _ => hDE y (hS4 y hy))
    have F3W : Fr [] W w3 := (Fr.mono (Fr.app hF F3) (by have z0_ := Fr.size hF; have z1_ := Fr.size F3; intro y_ hy_ hl_; grind [blkOf]))
    obtain ⟨F4, nD'⟩ := freshG F3W CD nD
    have hD'E : ∀ y, D' y → ¬ E y := fun y hy he => by
      rcases CD.new y hy with hh | hh
      · exact hDE y hh he
      · have := hltE y he; have := F3.size; omega
    by_cases hg : r.grp = n
    · have kg : (r.grp == n) = true := by simp [hg]
      have l4 := b4.ldN (n := 6) rfl
      simp only [GV.cs] at l4
      have hq4 : SlI .i64 x4 q r.mem := (hq.fr3 F3 (by simp)).fr3 g4 (fun h0' y hy hm => by
        have h1 := nD y (hS4 y hm)
        obtain ⟨hs0, _, _⟩ := rec_at h0 (Fr.refl [] W) hk
        have hqW : SlI .i64 W q r.mem := by
          obtain ⟨_, _, _, hqW, _⟩ := rec_at h0 (Fr.refl [] W) hk
          rw [hqq, hr] at hqW; exact hqW
        have := hqW.slC.lt (by have := hqW.1; simp; omega) y hy
        omega)
      obtain ⟨v', y1, y2, bt', y3, y4, E', a5, a6, a7, a8, hE', CE⟩ := tell hE4 hq4 hok hbad
      simp only [GV.arg, btA] at a5 a7 a8
      obtain ⟨S5, g5, hS5⟩ := CE.fr
      obtain ⟨F5, nE'⟩ := freshG F4 CE nE
      have hD5 := hD'.fr g5 (fun y hy _ hd => hD'E y hd (hS5 y hy))
      refine ⟨y4, ?_, ⟨⟨doT T r, doT U r, D', E', hD5, hE', ?_, ?_, nD', nE'⟩, F5⟩⟩
      · unfold g6_l8_b
        simp only [k0, i1, ld, s2, l2, e3, n1, l3, a1, a2, a3, a4, addr_add, Nat.zero_add, c4, hn, w1, kg, l4, a5, a6, a7, a8, kw, obs, asP_pointer, asB_bool, asI_int, asS_string, asSl_slice, asM_map, asTup0, asTup1, asTup2, asTup3, asTup4, asTup5, asTup6, asTup7, asTup8, asTup9, asAgg2, asAgg3, asAgg4, asAgg5, asAgg6, asAgg7, asAgg8, asAgg9, asAgg12, getD0, getD1, getD2, getD3, getD4, getD5, getD6, getD7, getD8, getD9, getD10, getD11, getD12, getD13, getD14, getD15, getD16, getD17, getD18, getD19, Bool.not_true, Bool.not_false, Bool.false_eq_true, Bool.true_eq_false, ↓reduceIte, decide_true, decide_false, Option.isNone_some, Option.isNone_none, Option.isSome_some, Option.isSome_none, beq_self_eq_true, bne_self_eq_false, Bool.and_true, Bool.true_and, Bool.and_false, Bool.false_and, not_true_eq_false, not_false_eq_true]
      · rw [kget_do, kget_do, if_pos hg.symm, if_pos hg.symm, hg, hTU]
      · intro y hy he
        rcases CE.new y he with hh | hh
        · exact hD'E y hy hh
        · have := hD'.lt y hy; omega
    · have kg : (r.grp == n) = false := by simp [hg]
      refine ⟨x4, ?_, ⟨⟨doT T r, U, D', E, hD', hE4, ?_, hD'E, nD', nE⟩, F4⟩⟩
      · unfold g6_l8_b
        simp only [k0, i1, ld, s2, l2, e3, n1, l3, a1, a2, a3, a4, addr_add, Nat.zero_add, c4, hn, w1, kg, kw, obs, asP_pointer, asB_bool, asI_int, asS_string, asSl_slice, asM_map, asTup0, asTup1, asTup2, asTup3, asTup4, asTup5, asTup6, asTup7, asTup8, asTup9, asAgg2, asAgg3, asAgg4, asAgg5, asAgg6, asAgg7, asAgg8, asAgg9, asAgg12, getD0, getD1, getD2, getD3, getD4, getD5, getD6, getD7, getD8, getD9, getD10, getD11, getD12, getD13, getD14, getD15, getD16, getD17, getD18, getD19, Bool.not_true, Bool.not_false, Bool.false_eq_true, Bool.true_eq_false, ↓reduceIte, decide_true, decide_false, Option.isNone_some, Option.isNone_none, Option.isSome_some, Option.isSome_none, beq_self_eq_true, bne_self_eq_false, Bool.and_true, Bool.true_and, Bool.and_false, Bool.false_and, not_true_eq_false, not_false_eq_true]
      · rw [kget_do, if_neg (fun e => hg e.symm), hTU]

theorem GroupApart_main (W : World) (x0 : (Ty.slice (.cons (.int .i64) (.cons (.int .i64) (.cons (.int .i64) (.cons (.slice (.int .i64)) (.cons (.int .i64) (.cons (.int .i64) .nil))))))).Val) (h0 : (Ty.slice (.cons (.int .i64) (.cons (.int .i64) (.cons (.int .i64) (.cons (.slice (.int .i64)) (.cons (.int .i64) (.cons (.int .i64) .nil))))))).At W [.slice x0.1.1 x0.1.2.1 x0.1.2.2] x0) (n1 : Int) (h1 : IntKind.u8.min ≤ n1 ∧ n1 ≤ IntKind.u8.max) :
    ∃ w', callF Try.prog 6 #[.slice x0.1.1 x0.1.2.1 x0.1.2.2, .int .u8 n1] W = some (.bool true, w') ∧ Fr [] W w' := by
  have h1' : (0 : Int) ≤ n1 ∧ n1 ≤ 255 := h1
  have hlen := h0.2.1
  obtain ⟨w1, D1, e1, s1, f1, nd1⟩ := new19 W
  obtain ⟨w2, D2, e2, s2, f2, nd2⟩ := new19 w1
  obtain ⟨w3, e3, f3⟩ := awake9 w2
  have F23 : Fr [] w1 w3 := (Fr.mono (Fr.app f2 f3) (by have z0_ := Fr.size f2; have z1_ := Fr.size f3; intro y_ hy_ hl_; grind [blkOf]))
  have s1' := s1.fr F23 (by simp)
  have s2' := s2.fr f3 (by simp)
  have z1 := f1.size
  obtain ⟨t, w4, g1, rfl, hA⟩ := loopS_countX 0 (b := g6_l8_b x0.1 (some ⟨W.heap.size + 2, 0, none⟩) n1 (some ⟨w1.heap.size + 2, 0, none⟩)) (n := x0.2.length)
    (I := fun k s x => s = (k : Int) ∧ AInv W (W.heap.size + 2) (w1.heap.size + 2) (Int.tmod n1 8) x)
    (fun k s x hk ⟨hs, h⟩ => by
      subst hs
      obtain ⟨w', g, h'⟩ := apart_round h1' h0 h hk
      exact ⟨_, w', g, rfl, h'⟩)
    (fun s x ⟨hs, _⟩ => by
      subst hs
      unfold g6_l8_b
      have k0 : decide ((x0.2.length : Int) < (x0.1.2.1 : Int)) = false := by simp; omega
      simp only [k0, Bool.false_eq_true, if_false]) (k := 0) (s := 0) (w := w3) (Nat.zero_le _)
    ⟨rfl, ⟨⟨[], [], D1, D2, s1', s2', rfl, fun y hy he => by have := s1.lt y hy; have := nd2 y he; omega, nd1, fun y hy => by have := nd2 y hy; omega⟩, (Fr.mono (Fr.app f1 F23) (by have z0_ := Fr.size f1; have z1_ := Fr.size F23; intro y_ hy_ hl_; grind [blkOf]))⟩⟩
  obtain ⟨⟨T, U, D, E, hD, hE, hTU, hDE, nD, nE⟩, hF⟩ := hA
  obtain ⟨n, hn⟩ : ∃ n, Int.tmod n1 8 = n := ⟨_, rfl⟩
  have hp0 := Int.tmod_nonneg 8 h1'.1
  have hp1 := Int.tmod_lt_of_pos n1 (show (0 : Int) < 8 by omega)
  rw [hn] at hTU hp0 hp1
  have wn : IntKind.i64.wrap n = n := wrap_i64 (by omega) (by omega)
  have hteam : teamG U n = teamG T n := by unfold teamG; rw [hTU]
  have hoff : ∀ p, offG U n p = offG T n p := fun p => by unfold offG; rw [hTU]
  obtain ⟨q5, w5, e5, o5, f5, _, ml⟩ := team23 hD n
  have hE5 := hE.fr f5 (by simp)
  obtain ⟨q6, w6, e6, o6, f6, _⟩ := team23 hE5 n
  rw [hteam] at e6 o6
  have F56 : Fr [] w4 w6 := (Fr.mono (Fr.app f5 f6) (by have z0_ := Fr.size f5; have z1_ := Fr.size f6; intro y_ hy_ hl_; grind [blkOf]))
  obtain ⟨t, w7, g2, rfl, f7⟩ := loopS_countX 2 (b := g6_l100_b (some ⟨W.heap.size + 2, 0, none⟩) n1 (some ⟨w1.heap.size + 2, 0, none⟩) (teamG T n).gen q5 (teamG T n).gen q6) (n := 4)
    (I := fun k s x => s = (k : Int) ∧ Fr [] w6 x)
    (fun k s x hk ⟨hs, f⟩ => by
      subst hs
      have F : Fr [] w4 x := (Fr.mono (Fr.app F56 f) (by have z0_ := Fr.size F56; have z1_ := Fr.size f; intro y_ hy_ hl_; grind [blkOf]))
      obtain ⟨x1, a1, g1⟩ := offset22 (hD.fr F (by simp)) n (k : Int)
      have F1 : Fr [] w4 x1 := (Fr.mono (Fr.app F g1) (by have z0_ := Fr.size F; have z1_ := Fr.size g1; intro y_ hy_ hl_; grind [blkOf]))
      obtain ⟨x2, a2, g2⟩ := offset22 (hE.fr F1 (by simp)) n (k : Int)
      rw [hoff] at a2
      have k0 : decide ((k : Int) < 4) = true := by simp; omega
      have kw := wrap_succ (n := k) (by omega)
      have n00 : ∀ z : Int, (z != z) = false := fun z => by simp
      refine ⟨_, x2, ?_, rfl, (Fr.mono (Fr.app (Fr.app f g1) g2) (by have z0_ := Fr.size f; have z1_ := Fr.size g1; have z2_ := Fr.size g2; intro y_ hy_ hl_; grind [blkOf]))⟩
      unfold g6_l100_b
      simp only [k0, hn, wn, a1, a2, n00, kw, obs, asP_pointer, asB_bool, asI_int, asS_string, asSl_slice, asM_map, asTup0, asTup1, asTup2, asTup3, asTup4, asTup5, asTup6, asTup7, asTup8, asTup9, asAgg2, asAgg3, asAgg4, asAgg5, asAgg6, asAgg7, asAgg8, asAgg9, asAgg12, getD0, getD1, getD2, getD3, getD4, getD5, getD6, getD7, getD8, getD9, getD10, getD11, getD12, getD13, getD14, getD15, getD16, getD17, getD18, getD19, Bool.not_true, Bool.not_false, Bool.false_eq_true, Bool.true_eq_false, ↓reduceIte, decide_true, decide_false, Option.isNone_some, Option.isNone_none, Option.isSome_some, Option.isSome_none, beq_self_eq_true, bne_self_eq_false, Bool.and_true, Bool.true_and, Bool.and_false, Bool.false_and, not_true_eq_false, not_false_eq_true])
    (fun s x ⟨hs, _⟩ => by subst hs; rfl) (k := 0) (s := 0) (w := w6) (by omega) ⟨rfl, Fr.refl _ _⟩
  have F67 : Fr [] w5 w7 := (Fr.mono (Fr.app f6 f7) (by have z0_ := Fr.size f6; have z1_ := Fr.size f7; intro y_ hy_ hl_; grind [blkOf]))
  obtain ⟨w8, e8, f8⟩ := same35 ((o5.fr F67 (by simp)).slI) ((o6.fr f7 (by simp)).slI) (by
    omega)
  have n00 : ∀ z : Int, (z == z) = true := fun z => by simp
  have F8 : Fr [] W w8 := (Fr.mono (Fr.app (Fr.app (Fr.app hF f5) F67) f8) (by have z0_ := Fr.size hF; have z1_ := Fr.size f5; have z2_ := Fr.size F67; have z3_ := Fr.size f8; intro y_ hy_ hl_; grind [blkOf]))
  refine ⟨w8, g6_call ?_, F8⟩
  unfold g6
  simp only [e1, e2, e3, obs, asP_pointer, asB_bool, asI_int, asS_string, asSl_slice, asM_map, asTup0, asTup1, asTup2, asTup3, asTup4, asTup5, asTup6, asTup7, asTup8, asTup9, asAgg2, asAgg3, asAgg4, asAgg5, asAgg6, asAgg7, asAgg8, asAgg9, asAgg12, getD0, getD1, getD2, getD3, getD4, getD5, getD6, getD7, getD8, getD9, getD10, getD11, getD12, getD13, getD14, getD15, getD16, getD17, getD18, getD19, Bool.not_true, Bool.not_false, Bool.false_eq_true, Bool.true_eq_false, ↓reduceIte, decide_true, decide_false, Option.isNone_some, Option.isNone_none, Option.isSome_some, Option.isSome_none, beq_self_eq_true, bne_self_eq_false, Bool.and_true, Bool.true_and, Bool.and_false, Bool.false_and, not_true_eq_false, not_false_eq_true]
  rw [g6_l8_x0_of g1]
  unfold g6_l8_x0
  simp only [hn, wn, e5, e6, obs, asP_pointer, asB_bool, asI_int, asS_string, asSl_slice, asM_map, asTup0, asTup1, asTup2, asTup3, asTup4, asTup5, asTup6, asTup7, asTup8, asTup9, asAgg2, asAgg3, asAgg4, asAgg5, asAgg6, asAgg7, asAgg8, asAgg9, asAgg12, getD0, getD1, getD2, getD3, getD4, getD5, getD6, getD7, getD8, getD9, getD10, getD11, getD12, getD13, getD14, getD15, getD16, getD17, getD18, getD19, Bool.not_true, Bool.not_false, Bool.false_eq_true, Bool.true_eq_false, ↓reduceIte, decide_true, decide_false, Option.isNone_some, Option.isNone_none, Option.isSome_some, Option.isSome_none, beq_self_eq_true, bne_self_eq_false, Bool.and_true, Bool.true_and, Bool.and_false, Bool.false_and, not_true_eq_false, not_false_eq_true]
  rw [g6_l100_x2_of g2]
  unfold g6_l100_x2
  simp only [n00, e8, obs, asP_pointer, asB_bool, asI_int, asS_string, asSl_slice, asM_map, asTup0, asTup1, asTup2, asTup3, asTup4, asTup5, asTup6, asTup7, asTup8, asTup9, asAgg2, asAgg3, asAgg4, asAgg5, asAgg6, asAgg7, asAgg8, asAgg9, asAgg12, getD0, getD1, getD2, getD3, getD4, getD5, getD6, getD7, getD8, getD9, getD10, getD11, getD12, getD13, getD14, getD15, getD16, getD17, getD18, getD19, Bool.not_true, Bool.not_false, Bool.false_eq_true, Bool.true_eq_false, ↓reduceIte, decide_true, decide_false, Option.isNone_some, Option.isNone_none, Option.isSome_some, Option.isSome_none, beq_self_eq_true, bne_self_eq_false, Bool.and_true, Bool.true_and, Bool.and_false, Bool.false_and, not_true_eq_false, not_false_eq_true]
end Go.Proofs.Ytcakijeoeankfaa
