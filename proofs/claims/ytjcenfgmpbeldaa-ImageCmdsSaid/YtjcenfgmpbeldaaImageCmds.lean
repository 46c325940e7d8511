/-
  ImageCmds: lemmas on what Go functions of this seat come to (for whatever arguments, as each says). No condition but those that stand in each lemma.
-/
import Derived.Test.YtjcenfgmpbeldaaRs
import Derived.Test.YtjcenfgmpbeldaaImageL8
import Derived.Test.YtjcenfgmpbeldaaImageU
namespace Go.Proofs.Ytjcenfgmpbeldaa
open Go Go.Ev
set_option maxRecDepth 100000
set_option linter.unusedVariables false
set_option linter.unusedSimpArgs false

theorem ImageCmds_main (W : World) (cs0 : List Value) (x0 : (Ty.Val (.cons (.int .i64) (.cons (.int .i64) (.cons (.int .i64) (.cons (.int .i64) (.cons (.int .i64) (.cons (.slice (.int .i64)) .nil)))))))) (h0 : Ty.At W (.cons (.int .i64) (.cons (.int .i64) (.cons (.int .i64) (.cons (.int .i64) (.cons (.int .i64) (.cons (.slice (.int .i64)) .nil)))))) cs0 x0) (x1 : (Ty.slice (.int .u8)).Val) (h1 : (Ty.slice (.int .u8)).At W [.slice x1.1.1 x1.1.2.1 x1.1.2.2] x1) (hs0 : Ty.Fits (.cons (.int .i64) (.cons (.int .i64) (.cons (.int .i64) (.cons (.int .i64) (.cons (.int .i64) (.cons (.slice (.int .i64)) .nil)))))) x0) (hs1 : Ty.Fits (.slice (.int .u8)) x1) :
    ∃ w', callF Try.prog 8 #[.agg cs0.toArray, .slice x1.1.1 x1.1.2.1 x1.1.2.2] W = some (.bool true, w') ∧ Fr [] W w' := by
  obtain ⟨tsl, trg, _⟩ := slI_of_at h1
  have tlb := Fits.u8 hs1
  obtain ⟨c1, d1, rfl, _, ⟨rfl, g1⟩, c2, d2, rfl, _, ⟨rfl, g2⟩, c3, d3, rfl, _, ⟨rfl, g3⟩, c4, d4, rfl, _, ⟨rfl, g4⟩, c5, d5, rfl, _, ⟨rfl, g5⟩, c6, d6, rfl, _, hs, rfl⟩ := h0
  obtain ⟨c0, c1, c2, c3, c4, x6, _⟩ := x0
  simp only at *
  obtain ⟨psl, prg, _⟩ := slI_of_at (x := x6) ⟨rfl, hs.2⟩
  have plb : x6.2.length * 8 ≤ 140737488351232 := hs0.2.2.2.2.2.1.1
  have hc6 := hs.1
  obtain ⟨q, vs⟩ := x6
  obtain ⟨u, bs⟩ := x1
  simp only at *
  subst hc6
  obtain ⟨r, hr⟩ : ∃ r : CV, r = ⟨c0, c1, c2, c3, c4, vs⟩ := ⟨_, rfl⟩
  have hok : r.Ok := by
    rw [hr]
    exact ⟨g1, g2, g3, g4, g5, prg⟩
  have hbr : ∀ b ∈ bs, 0 ≤ b ∧ b ≤ 255 := trg
  have hvs : vs.length ≤ 17592186043904 := by omega
  have hbs : bs.length ≤ 140737488351232 := by omega
  have hpr : r.ls = vs := by rw [hr]
  rw [← hpr] at psl hvs
  have fa : Fr [] W (W.alloc (.cells #[.int .i64 c0, .int .i64 c1, .int .i64 c2, .int .i64 c3, .int .i64 c4, .slice q.1 q.2.1 q.2.2] 33)) := Fr.alloc _
  have ba := Blk.new W (r.cs q) 33
  rw [hr] at ba
  change Blk (W.alloc (.cells #[.int .i64 c0, .int .i64 c1, .int .i64 c2, .int .i64 c3, .int .i64 c4, .slice q.1 q.2.1 q.2.2] 33)) _ _ _ at ba
  obtain ⟨w1, hw1⟩ : ∃ w1, W.alloc (.cells #[.int .i64 c0, .int .i64 c1, .int .i64 c2, .int .i64 c3, .int .i64 c4, .slice q.1 q.2.1 q.2.2] 33) = w1 := ⟨_, rfl⟩
  rw [hw1] at fa ba
  rw [← hr] at ba
  have hcs : ∀ q', r.cs q' = [.int .i64 c0, .int .i64 c1, .int .i64 c2, .int .i64 c3, .int .i64 c4, .slice q'.1 q'.2.1 q'.2.2] := fun q' => by rw [hr]; rfl
  have harg : ∀ q', r.arg q' = .agg #[.int .i64 c0, .int .i64 c1, .int .i64 c2, .int .i64 c3, .int .i64 c4, .slice q'.1 q'.2.1 q'.2.2] := fun q' => by rw [hr]; rfl
  have ld : ∀ {x : World}, Blk x W.heap.size (r.cs q) 33 → ldN x ⟨W.heap.size, 0, none⟩ 0 6 = some [.int .i64 c0, .int .i64 c1, .int .i64 c2, .int .i64 c3, .int .i64 c4, .slice q.1 q.2.1 q.2.2] := fun h => by
    have := h.ldN (n := 6) rfl
    rw [hcs] at this
    exact this
  -- the document's answers
  obtain ⟨v2, w2, e2, o2, f2, n2⟩ := docenc25 w1 r (psl.fr3 fa (by simp)) hok
  have F2 : Fr [] W w2 := (Fr.mono (Fr.app fa f2) (by have z0_ := Fr.size fa; have z1_ := Fr.size f2; intro y_ hy_ hl_; grind [blkOf]))
  obtain ⟨v3, w3, e3, o3, f3, n3⟩ := docdec26 (tsl.fr3 F2 (by simp)) hbr (by omega)
  obtain ⟨rd, hrd⟩ : ∃ rd, (decC bs).1 = rd := ⟨_, rfl⟩
  obtain ⟨ed, hed⟩ : ∃ ed, (decC bs).2 = ed := ⟨_, rfl⟩
  have hrl : rd.ls.length ≤ 4096 := by
    rw [← hrd]
    unfold decC
    split
    · simp [cv0]
    · split
      · simp [cv0]
      · exact (rd6_ok (s := ⟨bs, 0, 0⟩) ⟨hbr, by simp, by simp only; omega⟩).2.2
  rw [hrd, hed] at e3
  rw [hrd] at o3
  obtain ⟨w4, s4, b4, f4, l4⟩ := newC w3 rd v3
  obtain ⟨w5, e5, f5⟩ := awake12 w4
  have F5 : Fr [] w1 w5 := (Fr.mono (Fr.app (Fr.app (Fr.app f2 f3) f4) f5) (by have z0_ := Fr.size f2; have z1_ := Fr.size f3; have z2_ := Fr.size f4; have z3_ := Fr.size f5; intro y_ hy_ hl_; grind [blkOf]))
  have B5 := ba.fr F5 (by simp)
  have F5W : Fr [] W w5 := (Fr.mono (Fr.app fa F5) (by have z0_ := Fr.size fa; have z1_ := Fr.size F5; intro y_ hy_ hl_; grind [blkOf]))
  obtain ⟨v6, w6, e6, o6, f6, n6⟩ := own14 w5 r (psl.fr3 F5W (by simp)) (by omega)
  obtain ⟨w7, s7, b7, f7, l7⟩ := newC w6 r v6
  have o7 := o6.fr f7 (by simp)
  obtain ⟨v8, w8, e8, o8, f8, n8⟩ := encode27 w7 r o7.slI hok
  have F8 : Fr [] w2 w8 := (Fr.mono (Fr.app (Fr.app (Fr.app (Fr.app (Fr.app f3 f4) f5) f6) f7) f8) (by have z0_ := Fr.size f3; have z1_ := Fr.size f4; have z2_ := Fr.size f5; have z3_ := Fr.size f6; have z4_ := Fr.size f7; have z5_ := Fr.size f8; intro y_ hy_ hl_; grind [blkOf]))
  obtain ⟨w9, e9, f9⟩ := same30 (o8.slI) ((o2.fr F8 (by simp)).slI) (by
    split
    · simp
    · have := cmdB_len hok (by omega)
      omega)
  have b9 := (b7.fr f8 (by simp)).fr f9 (by simp)
  have l9 := b9.ldN (n := 6) rfl
  rw [hcs] at l9
  have F9 : Fr [] w1 w9 := (Fr.mono (Fr.app (Fr.app f2 F8) f9) (by have z0_ := Fr.size f2; have z1_ := Fr.size F8; have z2_ := Fr.size f9; intro y_ hy_ hl_; grind [blkOf]))
  have B9 := ba.fr F9 (by simp)
  have F9W : Fr [] W w9 := (Fr.mono (Fr.app fa F9) (by have z0_ := Fr.size fa; have z1_ := Fr.size F9; intro y_ hy_ hl_; grind [blkOf]))
  have F79 : Fr [] w7 w9 := (Fr.mono (Fr.app f8 f9) (by have z0_ := Fr.size f8; have z1_ := Fr.size f9; intro y_ hy_ hl_; grind [blkOf]))
  obtain ⟨w10, e10, f10⟩ := sameCmd29 w9 r (o7.fr F79 (by simp)).slI (psl.fr3 F9W (by simp)) (by omega)
  simp only [harg] at e2 e6 e8 e10
  have s7' := s7
  rw [hr] at s7'
  simp only at s7'
  have ld1 := ld ba
  have ld5 := ld B5
  have ld9 := ld B9
  rw [hr] at l7
  simp only at l7
  -- the text is read
  have tail : ∀ x : World, Fr [] w4 x → ∃ w', g8_j70 u ed (.tuple #[rd.arg v3, .int .i64 ed], w3) x = some (.bool true, w') ∧ Fr [] x w' := by
    intro x fx
    have FX : Fr [] W x := (Fr.mono (Fr.app (Fr.app (Fr.app F2 f3) f4) fx) (by have z0_ := Fr.size F2; have z1_ := Fr.size f3; have z2_ := Fr.size f4; have z3_ := Fr.size fx; intro y_ hy_ hl_; grind [blkOf]))
    obtain ⟨t1, y1, a1, p1, g1, m1⟩ := copyB (tsl.fr3 FX (by simp)) (by omega)
    obtain ⟨t2, y2, a2, p2, g2, m2⟩ := decode30 p1.slI hbr (by omega)
    rw [hrd, hed] at a2
    rw [hrd] at p2
    obtain ⟨y3, a3, c3, g3, k3⟩ := newC y2 rd t2
    have G : Fr [] w4 y3 := (Fr.mono (Fr.app (Fr.app (Fr.app fx g1) g2) g3) (by have z0_ := Fr.size fx; have z1_ := Fr.size g1; have z2_ := Fr.size g2; have z3_ := Fr.size g3; intro y_ hy_ hl_; grind [blkOf]))
    have l4' := (b4.fr G (by simp)).ldN (n := 6) rfl
    simp only [CV.cs] at l4'
    have G3 : Fr [] w3 y3 := (Fr.mono (Fr.app f4 G) (by have z0_ := Fr.size f4; have z1_ := Fr.size G; intro y_ hy_ hl_; grind [blkOf]))
    obtain ⟨y4, a4, g4⟩ := sameCmd29 y3 rd (p2.fr g3 (by simp)).slI (o3.fr G3 (by simp)).slI (by omega)
    have G14 : Fr [] y1 y4 := (Fr.mono (Fr.app (Fr.app g2 g3) g4) (by have z0_ := Fr.size g2; have z1_ := Fr.size g3; have z2_ := Fr.size g4; intro y_ hy_ hl_; grind [blkOf]))
    have GW : Fr [] W y4 := (Fr.mono (Fr.app (Fr.app FX g1) G14) (by have z0_ := Fr.size FX; have z1_ := Fr.size g1; have z2_ := Fr.size G14; intro y_ hy_ hl_; grind [blkOf]))
    obtain ⟨y5, a5, g5⟩ := same30 (p1.fr G14 (by simp)).slI (tsl.fr3 GW (by simp)) (by omega)
    have ke : (ed == ed) = true := by simp
    simp only [CV.arg] at a2 a4
    refine ⟨y5, ?_, (Fr.mono (Fr.app (Fr.app g1 G14) g5) (by have z0_ := Fr.size g1; have z1_ := Fr.size G14; have z2_ := Fr.size g5; intro y_ hy_ hl_; grind [blkOf]))⟩
    unfold g8_j70
    simp only [a1, a2, a3, ke, k3, l4', a4, a5, obs, asP_pointer, asB_bool, asI_int, asS_string, asSl_slice, asM_map, asTup0, asTup1, asTup2, asTup3, asTup4, asTup5, asTup6, asTup7, asTup8, asTup9, asAgg2, asAgg3, asAgg4, asAgg5, asAgg6, asAgg7, asAgg8, asAgg9, asAgg12, getD0, getD1, getD2, getD3, getD4, getD5, getD6, getD7, getD8, getD9, getD10, getD11, getD12, getD13, getD14, getD15, getD16, getD17, getD18, getD19, Bool.not_true, Bool.not_false, Bool.false_eq_true, Bool.true_eq_false, ↓reduceIte, decide_true, decide_false, Option.isNone_some, Option.isNone_none, Option.isSome_some, Option.isSome_none, beq_self_eq_true, bne_self_eq_false, Bool.and_true, Bool.true_and, Bool.and_false, Bool.false_and, not_true_eq_false, not_false_eq_true]
  by_cases hbad : badC r
  · simp only [hbad, if_true] at e2 e8
    obtain ⟨w', ht, ft⟩ := tail w10 (Fr.mono (Fr.app (Fr.app (Fr.app (Fr.app (Fr.app f5 f6) f7) f8) f9) f10) (by have z0_ := Fr.size f5; have z1_ := Fr.size f6; have z2_ := Fr.size f7; have z3_ := Fr.size f8; have z4_ := Fr.size f9; have z5_ := Fr.size f10; intro y_ hy_ hl_; grind [blkOf]))
    have k0 : ((1 : Int) != 1) = false := rfl
    have k1 : ((1 : Int) == 0) = false := rfl
    refine ⟨w', g8_call (u0c0 := c0) (u0c1 := c1) (u0c2 := c2) (u0c3 := c3) (u0c4 := c4) (u0c5 := q) ?_, (Fr.mono (Fr.app (Fr.app F9W f10) ft) (by have z0_ := Fr.size F9W; have z1_ := Fr.size f10; have z2_ := Fr.size ft; intro y_ hy_ hl_; grind [blkOf]))⟩
    unfold g8
    rw [hw1]
    simp only [CV.arg] at e3 ht
    rw [ld1, obs]
    simp only [e2, e3, s4, e5, ld5, e6, s7', l7, e8, k0, e9, l9, ld9, e10, k1, obs, asP_pointer, asB_bool, asI_int, asS_string, asSl_slice, asM_map, asTup0, asTup1, asTup2, asTup3, asTup4, asTup5, asTup6, asTup7, asTup8, asTup9, asAgg2, asAgg3, asAgg4, asAgg5, asAgg6, asAgg7, asAgg8, asAgg9, asAgg12, getD0, getD1, getD2, getD3, getD4, getD5, getD6, getD7, getD8, getD9, getD10, getD11, getD12, getD13, getD14, getD15, getD16, getD17, getD18, getD19, Bool.not_true, Bool.not_false, Bool.false_eq_true, Bool.true_eq_false, ↓reduceIte, decide_true, decide_false, Option.isNone_some, Option.isNone_none, Option.isSome_some, Option.isSome_none, beq_self_eq_true, bne_self_eq_false, Bool.and_true, Bool.true_and, Bool.and_false, Bool.false_and, not_true_eq_false, not_false_eq_true]
    exact ht
  · simp only [hbad, if_false] at e2 e8
    rw [if_neg hbad] at o8
    have hlr : r.ls.length ≤ 5 := by unfold badC at hbad; omega
    have F810 : Fr [] w8 w10 := (Fr.mono (Fr.app f9 f10) (by have z0_ := Fr.size f9; have z1_ := Fr.size f10; intro y_ hy_ hl_; grind [blkOf]))
    obtain ⟨v11, w11, e11, o11, f11, n11⟩ := decode30 (o8.fr F810 (by simp)).slI (cmdB_range r) (by
      have := cmdB_len hok (by omega)
      omega)
    rw [decC_enc hok hbad] at e11 o11
    obtain ⟨w12, s12, b12, f12, l12⟩ := newC w11 r v11
    have F12 : Fr [] w9 w12 := (Fr.mono (Fr.app (Fr.app f10 f11) f12) (by have z0_ := Fr.size f10; have z1_ := Fr.size f11; have z2_ := Fr.size f12; intro y_ hy_ hl_; grind [blkOf]))
    have B12 := B9.fr F12 (by simp)
    have ld12 := ld B12
    have F12W : Fr [] W w12 := (Fr.mono (Fr.app F9W F12) (by have z0_ := Fr.size F9W; have z1_ := Fr.size F12; intro y_ hy_ hl_; grind [blkOf]))
    obtain ⟨w13, e13, f13⟩ := sameCmd29 w12 r (o11.fr f12 (by simp)).slI (psl.fr3 F12W (by simp)) (by omega)
    obtain ⟨w', ht, ft⟩ := tail w13 (Fr.mono (Fr.app (Fr.app (Fr.app (Fr.app (Fr.app (Fr.app f5 f6) f7) f8) f9) F12) f13) (by have z0_ := Fr.size f5; have z1_ := Fr.size f6; have z2_ := Fr.size f7; have z3_ := Fr.size f8; have z4_ := Fr.size f9; have z5_ := Fr.size F12; have z6_ := Fr.size f13; intro y_ hy_ hl_; grind [blkOf]))
    simp only [harg] at e11 e13
    rw [hr] at l12
    simp only at l12
    have s12' := s12
    rw [hr] at s12'
    simp only at s12'
    have k0 : ((0 : Int) != 0) = false := rfl
    have k1 : ((0 : Int) == 0) = true := rfl
    refine ⟨w', g8_call (u0c0 := c0) (u0c1 := c1) (u0c2 := c2) (u0c3 := c3) (u0c4 := c4) (u0c5 := q) ?_, (Fr.mono (Fr.app (Fr.app F12W f13) ft) (by have z0_ := Fr.size F12W; have z1_ := Fr.size f13; have z2_ := Fr.size ft; intro y_ hy_ hl_; grind [blkOf]))⟩
    unfold g8
    rw [hw1]
    simp only [CV.arg] at e3 ht
    rw [ld1, obs]
    simp only [e2, e3, s4, e5, ld5, e6, s7', l7, e8, k0, e9, l9, ld9, e10, k1, e11, s12', l12, ld12, e13, obs, asP_pointer, asB_bool, asI_int, asS_string, asSl_slice, asM_map, asTup0, asTup1, asTup2, asTup3, asTup4, asTup5, asTup6, asTup7, asTup8, asTup9, asAgg2, asAgg3, asAgg4, asAgg5, asAgg6, asAgg7, asAgg8, asAgg9, asAgg12, getD0, getD1, getD2, getD3, getD4, getD5, getD6, getD7, getD8, getD9, getD10, getD11, getD12, getD13, getD14, getD15, getD16, getD17, getD18, getD19, Bool.not_true, Bool.not_false, Bool.false_eq_true, Bool.true_eq_false, ↓reduceIte, decide_true, decide_false, Option.isNone_some, Option.isNone_none, Option.isSome_some, Option.isSome_none, beq_self_eq_true, bne_self_eq_false, Bool.and_true, Bool.true_and, Bool.and_false, Bool.false_and, not_true_eq_false, not_false_eq_true]
    exact ht
end Go.Proofs.Ytjcenfgmpbeldaa
