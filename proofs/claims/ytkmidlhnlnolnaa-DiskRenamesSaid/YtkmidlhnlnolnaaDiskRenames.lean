/-
  DiskRenames: lemmas on what Go functions of this seat come to (for whatever arguments, as each says). No condition but those that stand in each lemma.
-/
import Derived.Test.YtkmidlhnlnolnaaRs
import Derived.Test.YtkmidlhnlnolnaaDiskK
namespace Go.Proofs.Ytkmidlhnlnolnaa
open Go Go.Ev
set_option maxRecDepth 100000
set_option linter.unusedVariables false
set_option linter.unusedSimpArgs false

def nmO : ByteArray := ⟨#[111, 108, 100]⟩
def nmN : ByteArray := ⟨#[110, 101, 119]⟩

theorem freshD {W w w' : World} {D D' : Nat → Prop} (hF : Fr [] W w) (c : Chg D w w' D') (hD : ∀ y, D y → W.heap.size ≤ y) : Fr [] W w' ∧ ∀ y, D' y → W.heap.size ≤ y := by
  obtain ⟨S, f, hS⟩ := c.fr
  have n := c.new
  have z := hF.size
  refine ⟨(Fr.mono (Fr.app hF f) (by have z0_ := Fr.size hF; have z1_ := Fr.size f; intro y_ hy_ hl_; grind [blkOf])), fun y hy => ?_⟩
  rcases n y hy with hh | hh
  · exact hD y hh
  · omega

theorem DiskRenames_main (W : World) (x0 : (Ty.slice (.int .u8)).Val) (h0 : (Ty.slice (.int .u8)).At W [.slice x0.1.1 x0.1.2.1 x0.1.2.2] x0) (x1 : (Ty.slice (.int .u8)).Val) (h1 : (Ty.slice (.int .u8)).At W [.slice x1.1.1 x1.1.2.1 x1.1.2.2] x1) (n2 : Bool) (n3 : Int) (h3 : IntKind.i64.min ≤ n3 ∧ n3 ≤ IntKind.i64.max) (hs0 : Ty.Fits (.slice (.int .u8)) x0) (hs1 : Ty.Fits (.slice (.int .u8)) x1) :
    ∃ w', callF Try.prog 5 #[.slice x0.1.1 x0.1.2.1 x0.1.2.2, .slice x1.1.1 x1.1.2.1 x1.1.2.2, .bool n2, .int .i64 n3] W = some (.bool true, w') ∧ Fr [] W w' := by
  obtain ⟨asl, ar, _⟩ := slI_of_at h0
  obtain ⟨bs, br, _⟩ := slI_of_at h1
  have al := Fits.u8 hs0
  have bl := Fits.u8 hs1
  have hac : x0.1.2.1 ≤ x0.1.2.2 := h0.2.2.1
  have hbc : x1.1.2.1 ≤ x1.1.2.2 := h1.2.2.1
  obtain ⟨u, a⟩ := x0
  obtain ⟨v, c⟩ := x1
  simp only at *
  have hal := asl.1
  have hbl := bs.1
  have hza : Zs a := fun z hz => by have := ar z hz; have h : (0 : Int) ≤ z ∧ z ≤ 255 := this; omega
  have hzc : Zs c := fun z hz => by have := br z hz; have h : (0 : Int) ≤ z ∧ z ≤ 255 := this; omega
  have hk : -9223372036854775808 ≤ n3 ∧ n3 < 9223372036854775808 := by
    have h : (-9223372036854775808 : Int) ≤ n3 ∧ n3 ≤ 9223372036854775807 := h3
    omega
  obtain ⟨w1, D1, e1, d1, f1, n1⟩ := new8 W
  obtain ⟨w2, e2, f2⟩ := awake9 (w := w1)
  have d2 := d1.fr f2 (by simp)
  have F2 : Fr [] W w2 := (Fr.mono (Fr.app f1 f2) (by have z0_ := Fr.size f1; have z1_ := Fr.size f2; intro y_ hy_ hl_; grind [blkOf]))
  have hsum : IntKind.i64.wrap ((u.2.1 : Int) + (v.2.1 : Int)) = (u.2.1 : Int) + (v.2.1 : Int) := wrap_i64 (by omega) (by omega)
  by_cases hbig : 524288 < u.2.1 + v.2.1
  · obtain ⟨w3, e3, f3⟩ := awake9 (w := w2)
    have k1 : decide ((u.2.1 : Int) + (v.2.1 : Int) > 524288) = true := by simp; omega
    refine ⟨w3, g5_call ?_, (Fr.mono (Fr.app F2 f3) (by have z0_ := Fr.size F2; have z1_ := Fr.size f3; intro y_ hy_ hl_; grind [blkOf]))⟩
    unfold g5
    simp only [e1, e2, hsum, k1, e3, obs, asP_pointer, asB_bool, asI_int, asS_string, asSl_slice, asM_map, asTup0, asTup1, asTup2, asTup3, asTup4, asTup5, asTup6, asTup7, asTup8, asTup9, asAgg2, asAgg3, asAgg4, asAgg5, asAgg6, asAgg7, asAgg8, asAgg9, asAgg12, getD0, getD1, getD2, getD3, getD4, getD5, getD6, getD7, getD8, getD9, getD10, getD11, getD12, getD13, getD14, getD15, getD16, getD17, getD18, getD19, Bool.not_true, Bool.not_false, Bool.false_eq_true, Bool.true_eq_false, ↓reduceIte, decide_true, decide_false, Option.isNone_some, Option.isNone_none, Option.isSome_some, Option.isSome_none, beq_self_eq_true, bne_self_eq_false, Bool.and_true, Bool.true_and, Bool.and_false, Bool.false_and, not_true_eq_false, not_false_eq_true]
  have k1 : decide ((u.2.1 : Int) + (v.2.1 : Int) > 524288) = false := by simp; omega
  have hnO : ¬ (nmO.size = 0 ∨ nmO.size > 24) := by decide
  have hnN : ¬ (nmN.size = 0 ∨ nmN.size > 24) := by decide
  have hne : nmO ≠ nmN := by decide
  have hne' : nmN ≠ nmO := by decide
  have tk : ∀ l, tookN (-1) l = l := fun l => by unfold tookN; rw [if_neg (by omega)]
  have fk : ∀ l, fuseN (-1) l = -1 := fun l => by unfold fuseN; rw [if_neg (by omega)]
  have hdisj : ∀ {S : Nat → Prop} {q : Option Addr × Nat × Nat} {p : List Int}, SlI .u8 W q p → (∀ y, S y → W.heap.size ≤ y) → 0 < p.length → ∀ y ∈ blkOf q, ¬ S y := fun hs hS h0 y hy hd => by
    have := hs.slC.lt (by simpa using h0) y hy
    have := hS y hd
    omega
  obtain ⟨w3, D3, e3, d3, c3⟩ := append10 d2 nmO (asl.fr3 F2 (by simp)) hza hac (hdisj asl n1) (by omega)
  have hA3 : appA [] (-1) false nmO a = (0, [(nmO, a, 0)], -1, false) := by
    unfold appA
    rw [if_neg (by decide), if_neg hnO, if_neg (by simp [used, kget_nil]; omega), tk, fk]
    simp [kups, putF]
  rw [hA3] at e3 d3
  simp only at e3 d3
  obtain ⟨F3, n3'⟩ := freshD F2 c3 n1
  obtain ⟨w4, D4, e4, d4, c4⟩ := append10 d3 nmN (bs.fr3 F3 (by simp)) hzc hbc (hdisj bs n3') (by omega)
  have hA4 : appA [(nmO, a, 0)] (-1) false nmN c = (0, [(nmO, a, 0), (nmN, c, 0)], -1, false) := by
    unfold appA
    rw [if_neg (by decide), if_neg hnN, if_neg (by simp [used]; omega), tk, fk]
    simp [kups, putF, hne, hne']
  rw [hA4] at e4 d4
  simp only at e4 d4
  obtain ⟨F4, n4⟩ := freshD F3 c4 n3'
  have hre : ∀ (s : Nat), renameA [(nmO, a, s), (nmN, c, 0)] false nmN nmO = (0, [(nmO, c, c.length)]) := by
    intro s
    unfold renameA
    rw [if_neg (by decide)]
    have hg : kget [(nmO, a, s), (nmN, c, 0)] nmN = some (c, 0) := by simp [kget_cons, hne, hne']
    rw [hg]
    simp only
    rw [if_neg hnO, if_neg hne']
    simp [kdel, kups, renF, hne, hne']
  have hcr : crashA n3 [(nmO, c, c.length)] = [(nmO, c, c.length)] := by
    have : leftN n3 (c, c.length) = c.length := by unfold leftN; simp [Nat.mod_one]
    simp [crashA, crashV, this]
  have hrd : readA [(nmO, c, c.length)] false nmO = (c, 0) := by
    unfold readA
    rw [if_neg (by decide)]
    simp [kget_cons]
  have z0 : ((0 : Int) != 0) = false := rfl
  have z1 : ((0 : Int) == 0) = true := rfl
  -- from the renaming on
  have tail : ∀ (w5 : World) (s : Nat) (D5 : Nat → Prop), Dk w5 D5 (W.heap.size + 1) [(nmO, a, s), (nmN, c, 0)] (-1) false → Fr [] W w5 → (∀ y, D5 y → W.heap.size ≤ y) →
      ∃ w', g5_j17 0 0 (some ⟨W.heap.size + 1, 0, none⟩) n3 v w5 = some (.bool true, w') ∧ Fr [] W w' := by
    intro w5 s D5 d5 F5 n5
    obtain ⟨w6, e6, d6, c6⟩ := rename19 d5 nmN nmO
    rw [hre] at e6 d6
    simp only at e6 d6
    obtain ⟨F6, n6⟩ := freshD F5 c6 n5
    obtain ⟨w7, e7, d7, c7⟩ := crash14 d6 hk
    rw [hcr] at d7
    obtain ⟨F7, n7⟩ := freshD F6 c7 n6
    obtain ⟨q8, w8, e8, o8, f8, _, _, _⟩ := read15 d7 nmO
    rw [hrd] at e8 o8
    simp only at e8 o8
    have d8 := d7.fr f8 (by simp)
    obtain ⟨q9, w9, e9, o9, f9⟩ := names18 d8
    have F9 : Fr [] W w9 := (Fr.mono (Fr.app (Fr.app F7 f8) f9) (by have z0_ := Fr.size F7; have z1_ := Fr.size f8; have z2_ := Fr.size f9; intro y_ hy_ hl_; grind [blkOf]))
    obtain ⟨w10, e10, f10⟩ := same30 (o8.fr f9 (by simp)).slI (bs.fr3 F9 (by simp)) (by omega)
    have o10 := o9.fr f10 (by simp)
    have l10 := o10.len
    have hq9 : q9.2.1 = 1 := by simpa using l10.symm
    obtain ⟨ad, i1, cc⟩ := o10.slC.get (i := 0) (by simp)
    have k9 : ((q9.2.1 : Int) == 1) = true := by rw [hq9]; rfl
    have ks : (nmO.toList == (⟨#[111, 108, 100]⟩ : ByteArray).toList) = true := by simp [nmO]
    simp only [List.getElem_cons_zero] at cc
    have i1' : idxA q9.1 q9.2.1 1 0 = some ad := i1
    refine ⟨w10, ?_, (Fr.mono (Fr.app F9 f10) (by have z0_ := Fr.size F9; have z1_ := Fr.size f10; intro y_ hy_ hl_; grind [blkOf]))⟩
    unfold g5_j17
    have e6' : callF Try.prog 19 #[.pointer (some ⟨W.heap.size + 1, 0, none⟩), .string (⟨#[110, 101, 119]⟩ : ByteArray), .string (⟨#[111, 108, 100]⟩ : ByteArray)] w5 = some (.int .i64 0, w6) := e6
    have e8' : callF Try.prog 15 #[.pointer (some ⟨W.heap.size + 1, 0, none⟩), .string (⟨#[111, 108, 100]⟩ : ByteArray)] w7 = some (.tuple #[.slice q8.1 q8.2.1 q8.2.2, .int .i64 0], w8) := e8
    simp only [z0, e6', e7, e8', e9, z1, e10, k9, i1', cc, ks, obs, asP_pointer, asB_bool, asI_int, asS_string, asSl_slice, asM_map, asTup0, asTup1, asTup2, asTup3, asTup4, asTup5, asTup6, asTup7, asTup8, asTup9, asAgg2, asAgg3, asAgg4, asAgg5, asAgg6, asAgg7, asAgg8, asAgg9, asAgg12, getD0, getD1, getD2, getD3, getD4, getD5, getD6, getD7, getD8, getD9, getD10, getD11, getD12, getD13, getD14, getD15, getD16, getD17, getD18, getD19, Bool.not_true, Bool.not_false, Bool.false_eq_true, Bool.true_eq_false, ↓reduceIte, decide_true, decide_false, Option.isNone_some, Option.isNone_none, Option.isSome_some, Option.isSome_none, beq_self_eq_true, bne_self_eq_false, Bool.and_true, Bool.true_and, Bool.and_false, Bool.false_and, not_true_eq_false, not_false_eq_true]
  have e3' : callF Try.prog 10 #[.pointer (some ⟨W.heap.size + 1, 0, none⟩), .string (⟨#[111, 108, 100]⟩ : ByteArray), .slice u.1 u.2.1 u.2.2] w2 = some (.int .i64 0, w3) := e3
  have e4' : callF Try.prog 10 #[.pointer (some ⟨W.heap.size + 1, 0, none⟩), .string (⟨#[110, 101, 119]⟩ : ByteArray), .slice v.1 v.2.1 v.2.2] w3 = some (.int .i64 0, w4) := e4
  cases n2 with
  | true =>
    obtain ⟨w5, e5, d5, c5⟩ := sync13 d4 nmO
    have hsy : syncA [(nmO, a, 0), (nmN, c, 0)] false nmO = (0, [(nmO, a, a.length), (nmN, c, 0)]) := by
      unfold syncA
      rw [if_neg (by decide)]
      have hg : kget [(nmO, a, 0), (nmN, c, 0)] nmO = some (a, 0) := by simp [kget_cons]
      simp [hg, kups, synF]
    rw [hsy] at e5 d5
    simp only at e5 d5
    obtain ⟨F5, n5⟩ := freshD F4 c5 n4
    obtain ⟨w', et, ft⟩ := tail w5 a.length D4 d5 F5 n5
    refine ⟨w', g5_call ?_, ft⟩
    have e5' : callF Try.prog 13 #[.pointer (some ⟨W.heap.size + 1, 0, none⟩), .string (⟨#[111, 108, 100]⟩ : ByteArray)] w4 = some (.int .i64 0, w5) := e5
    unfold g5
    simp only [e1, e2, hsum, k1, e3', e4', e5', obs, asP_pointer, asB_bool, asI_int, asS_string, asSl_slice, asM_map, asTup0, asTup1, asTup2, asTup3, asTup4, asTup5, asTup6, asTup7, asTup8, asTup9, asAgg2, asAgg3, asAgg4, asAgg5, asAgg6, asAgg7, asAgg8, asAgg9, asAgg12, getD0, getD1, getD2, getD3, getD4, getD5, getD6, getD7, getD8, getD9, getD10, getD11, getD12, getD13, getD14, getD15, getD16, getD17, getD18, getD19, Bool.not_true, Bool.not_false, Bool.false_eq_true, Bool.true_eq_false, ↓reduceIte, decide_true, decide_false, Option.isNone_some, Option.isNone_none, Option.isSome_some, Option.isSome_none, beq_self_eq_true, bne_self_eq_false, Bool.and_true, Bool.true_and, Bool.and_false, Bool.false_and, not_true_eq_false, not_false_eq_true]
    exact et
  | false =>
    obtain ⟨w', et, ft⟩ := tail w4 0 D4 d4 F4 n4
    refine ⟨w', g5_call ?_, ft⟩
    unfold g5
    simp only [e1, e2, hsum, k1, e3', e4', obs, asP_pointer, asB_bool, asI_int, asS_string, asSl_slice, asM_map, asTup0, asTup1, asTup2, asTup3, asTup4, asTup5, asTup6, asTup7, asTup8, asTup9, asAgg2, asAgg3, asAgg4, asAgg5, asAgg6, asAgg7, asAgg8, asAgg9, asAgg12, getD0, getD1, getD2, getD3, getD4, getD5, getD6, getD7, getD8, getD9, getD10, getD11, getD12, getD13, getD14, getD15, getD16, getD17, getD18, getD19, Bool.not_true, Bool.not_false, Bool.false_eq_true, Bool.true_eq_false, ↓reduceIte, decide_true, decide_false, Option.isNone_some, Option.isNone_none, Option.isSome_some, Option.isSome_none, beq_self_eq_true, bne_self_eq_false, Bool.and_true, Bool.true_and, Bool.and_false, Bool.false_and, not_true_eq_false, not_false_eq_true]
    exact et
end Go.Proofs.Ytkmidlhnlnolnaa
