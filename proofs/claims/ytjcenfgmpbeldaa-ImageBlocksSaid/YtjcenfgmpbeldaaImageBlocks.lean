/-
  ImageBlocks: lemmas on what Go functions of this seat come to (for whatever arguments, as each says). No condition but those that stand in each lemma.
-/
import Derived.Test.YtjcenfgmpbeldaaImageL5
import Derived.Test.YtjcenfgmpbeldaaImageO
namespace Go.Proofs.Ytjcenfgmpbeldaa
open Go Go.Ev
set_option maxRecDepth 100000
set_option linter.unusedVariables false
set_option linter.unusedSimpArgs false

/-- the image behind m blocks -/
def blkI (W : World) (b : Nat) (m : Nat) (w : World) : Prop :=
  ∃ D c nq pq ns es count, Raw w D b c nq pq ns es (1 + 10 * (m : Int)) count ∧ ns.length = 3 ∧ m ≤ 100 ∧ Fr [] W w ∧ ∀ y, D y → W.heap.size ≤ y

theorem blocks_round {W w : World} {b m k : Nat} {u0 : Sh} {vs : List Int} (h : blkI W b m w) (hs : SlI .u8 W u0 vs) (hle : ∀ z ∈ vs, IntKind.u8.min ≤ z ∧ z ≤ IntKind.u8.max) (hk : k < vs.length) (hl : (vs.length : Int) ≤ 9223372036854775807) :
    ∃ (m' : Nat) (w' : World), g5_l8_b u0 (some ⟨b, 0, none⟩) (false, (m : Int), (k : Int)) w = some (.normal, (false, (m' : Int), ((k + 1 : Nat) : Int)), w') ∧ blkI W b m' w' := by
  obtain ⟨D, c, nq, pq, ns, es, count, R, hn, hm, hF, hD⟩ := h
  have hs' := hs.fr3 hF (by simp)
  obtain ⟨a, i1, c1⟩ := hs'.get hk
  have hz : (0 : Int) ≤ vs[k] ∧ vs[k] ≤ 255 := hle _ (List.getElem_mem hk)
  have hlen := hs.1
  obtain ⟨z, hz3, hzk, hzw⟩ : ∃ z : Nat, z < 3 ∧ Int.tmod vs[k] 3 = (z : Int) ∧ IntKind.i64.wrap (z : Int) = (z : Int) := by
    have h1 := Int.tmod_nonneg 3 hz.1
    have h2 := Int.tmod_lt_of_pos vs[k] (show (0 : Int) < 3 by omega)
    exact ⟨(Int.tmod vs[k] 3).toNat, by omega, by omega, wrap_i64 (by omega) (by omega)⟩
  obtain ⟨w1, e1, R1, S, f1, hS⟩ := apply_block R ⟨5, (z : Int), 0, 0, 0, []⟩ nl rfl (n := z) (by omega) rfl (by omega)
  have e1' : callF Try.prog 13 #[.pointer (some ⟨b, 0, none⟩), .agg #[.int .i64 5, .int .i64 (z : Int), .int .i64 0, .int .i64 0, .int .i64 0, .slice none 0 0]] w = some (.int .i64 (if 1001 - (1 + 10 * (m : Int)) < 10 then 17 else 0), w1) := e1
  have F1 : Fr [] W w1 := (hF.app f1).mono (by intro y hy hl; simp at hy; have := hD y (hS y hy); omega)
  have k0 : decide ((k : Int) < (u0.2.1 : Int)) = true := by simp; omega
  have kw := wrap_succ (n := k) (by omega)
  by_cases hm2 : m < 100
  · have hc : ¬ (1001 - (1 + 10 * (m : Int)) < 10) := by omega
    simp only [hc, if_false] at e1' R1
    obtain ⟨w2, e2, f2⟩ := node16 R1 (z : Int)
    have hcd : (0 : Int) ≤ (z : Int) ∧ (z : Int).toNat < (ns.set z { ns[z] with bk := 1 + 10 * (m : Int) }).length := by simp; omega
    rw [dif_pos hcd] at e2
    have hg : (ns.set z { ns[z] with bk := 1 + 10 * (m : Int) })[(z : Int).toNat]'hcd.2 = { ns[z] with bk := 1 + 10 * (m : Int) } := by
      simp
    rw [hg] at e2
    have k1 : decide ((m : Int) < 100) = true := by simp; omega
    have a0 : ((0 : Int) == 0) = true := rfl
    have a1 : ((0 : Int) != 0) = false := rfl
    have w1' : IntKind.i64.wrap (10 * (m : Int)) = 10 * (m : Int) := wrap_i64 (by omega) (by omega)
    have w2' : IntKind.i64.wrap (1 + 10 * (m : Int)) = 1 + 10 * (m : Int) := wrap_i64 (by omega) (by omega)
    have w3' : IntKind.u64.wrap (1 + 10 * (m : Int)) = 1 + 10 * (m : Int) := wrap_u64 (by omega) (by omega)
    have a2 : ((1 + 10 * (m : Int)) != 1 + 10 * (m : Int)) = false := by simp
    have kw2 := wrap_succ (n := m) (by omega)
    refine ⟨m + 1, w2, ?_, D, c, nq, pq, ns.set z { ns[z] with bk := 1 + 10 * (m : Int) }, es, IntKind.i64.wrap (count + 1), ?_, by simpa using hn, by omega, (Fr.mono (Fr.app F1 f2) (by have z0_ := Fr.size F1; have z1_ := Fr.size f2; intro y_ hy_ hl_; grind [blkOf])), hD⟩
    · unfold g5_l8_b
      simp only [k0, i1, c1, hzk, hzw, e1', k1, a0, a1, e2, w1', w2', w3', a2, kw, kw2, obs, asP_pointer, asB_bool, asI_int, asS_string, asSl_slice, asM_map, asTup0, asTup1, asTup2, asTup3, asTup4, asTup5, asTup6, asTup7, asTup8, asTup9, asAgg2, asAgg3, asAgg4, asAgg5, asAgg6, asAgg7, asAgg8, asAgg9, asAgg12, getD0, getD1, getD2, getD3, getD4, getD5, getD6, getD7, getD8, getD9, getD10, getD11, getD12, getD13, getD14, getD15, getD16, getD17, getD18, getD19, Bool.not_true, Bool.not_false, Bool.false_eq_true, Bool.true_eq_false, ↓reduceIte, decide_true, decide_false, Option.isNone_some, Option.isNone_none, Option.isSome_some, Option.isSome_none, beq_self_eq_true, bne_self_eq_false, Bool.and_true, Bool.true_and, Bool.and_false, Bool.false_and, not_true_eq_false, not_false_eq_true]
    · have := R1.fr f2 (by simp)
      rw [show (1 : Int) + 10 * ((m + 1 : Nat) : Int) = 1 + 10 * (m : Int) + 10 by omega]
      exact this
  · have hc : (1001 - (1 + 10 * (m : Int)) < 10) := by omega
    simp only [hc, if_true] at e1' R1
    have k1 : decide ((m : Int) < 100) = false := by simp; omega
    have a0 : ((17 : Int) == 0) = false := rfl
    have a1 : ((17 : Int) != 0) = true := rfl
    have a2 : ((17 : Int) != 17) = false := rfl
    refine ⟨m, w1, ?_, D, c, nq, pq, ns, es, _, R1, hn, hm, F1, hD⟩
    unfold g5_l8_b
    simp only [k0, i1, c1, hzk, hzw, e1', k1, a0, a1, a2, kw, obs, asP_pointer, asB_bool, asI_int, asS_string, asSl_slice, asM_map, asTup0, asTup1, asTup2, asTup3, asTup4, asTup5, asTup6, asTup7, asTup8, asTup9, asAgg2, asAgg3, asAgg4, asAgg5, asAgg6, asAgg7, asAgg8, asAgg9, asAgg12, getD0, getD1, getD2, getD3, getD4, getD5, getD6, getD7, getD8, getD9, getD10, getD11, getD12, getD13, getD14, getD15, getD16, getD17, getD18, getD19, Bool.not_true, Bool.not_false, Bool.false_eq_true, Bool.true_eq_false, ↓reduceIte, decide_true, decide_false, Option.isNone_some, Option.isNone_none, Option.isSome_some, Option.isSome_none, beq_self_eq_true, bne_self_eq_false, Bool.and_true, Bool.true_and, Bool.and_false, Bool.false_and, not_true_eq_false, not_false_eq_true]

theorem ImageBlocks_main (W : World) (x0 : (Ty.slice (.int .u8)).Val) (h0 : (Ty.slice (.int .u8)).At W [.slice x0.1.1 x0.1.2.1 x0.1.2.2] x0) :
    ∃ w', callF Try.prog 5 #[.slice x0.1.1 x0.1.2.1 x0.1.2.2] W = some (.bool true, w') ∧ Fr [] W w' := by
  obtain ⟨hsI, hle, hbk⟩ := slI_of_at h0
  obtain ⟨_, hl1, hl2, hl3, _⟩ := h0
  have hml : maxLen = 9223372036854775807 := by decide
  have hlm : (x0.2.length : Int) ≤ 9223372036854775807 := by omega
  obtain ⟨w1, D, b, ct, nq, pq, es, e1, R1, hes, f1, hD⟩ := new11 W (n := 3) (p := 1) (c := 1) (by decide) (by decide) (by decide)
  obtain ⟨w2, e2, f2⟩ := awake12 w1
  have e1' : callF Try.prog 11 #[.int .i64 3, .int .i64 1, .int .i64 1] W = some (.tuple #[.pointer (some ⟨b, 0, none⟩), .int .i64 0], w1) := e1
  have R2 := R1.fr f2 (by simp)
  obtain ⟨t, w3, g1, m, rfl, h3⟩ := loopS_countX 0 (b := g5_l8_b x0.1 (some ⟨b, 0, none⟩)) (I := fun k s x => ∃ m : Nat, s = (false, (m : Int), (k : Int)) ∧ blkI W b m x) (n := x0.2.length)
    (fun k s x hk ⟨m, hs, h⟩ => by
      subst hs
      obtain ⟨m', w', g, h'⟩ := blocks_round h hsI hle hk hlm
      exact ⟨_, w', g, m', rfl, h'⟩)
    (fun s x ⟨m, hs, h⟩ => by
      subst hs
      unfold g5_l8_b
      simp [hsI.1]) (k := 0) (s := (false, 0, 0)) (w := w2) (Nat.zero_le _) ⟨0, rfl, D, ct, nq, pq, _, es, 0, R2, by simp, by omega, (Fr.mono (Fr.app f1 f2) (by have z0_ := Fr.size f1; have z1_ := Fr.size f2; intro y_ hy_ hl_; grind [blkOf])), hD⟩
  obtain ⟨D, c, nq, pq, ns, es, count, R, hn, hm, hF, hD⟩ := h3
  obtain ⟨w4, e4, f4⟩ := pids20 R (by omega)
  have a0 : ((0 : Int) != 0) = false := rfl
  have w1' : IntKind.i64.wrap (10 * (m : Int)) = 10 * (m : Int) := wrap_i64 (by omega) (by omega)
  have w2' : IntKind.i64.wrap (1 + 10 * (m : Int)) = 1 + 10 * (m : Int) := wrap_i64 (by omega) (by omega)
  have w3' : IntKind.u64.wrap (1 + 10 * (m : Int)) = 1 + 10 * (m : Int) := wrap_u64 (by omega) (by omega)
  have w4' : IntKind.i64.wrap (1000 - 10 * (m : Int)) = 1000 - 10 * (m : Int) := wrap_i64 (by omega) (by omega)
  have w5' : IntKind.u64.wrap (1000 - 10 * (m : Int)) = 1000 - 10 * (m : Int) := wrap_u64 (by omega) (by omega)
  have q1 : (1 + 10 * (m : Int) == 1 + 10 * (m : Int)) = true := by simp
  have q2 : (1001 - (1 + 10 * (m : Int)) == 1000 - 10 * (m : Int)) = true := by simp; omega
  refine ⟨w4, g5_call ?_, (Fr.mono (Fr.app hF f4) (by have z0_ := Fr.size hF; have z1_ := Fr.size f4; intro y_ hy_ hl_; grind [blkOf]))⟩
  unfold g5
  simp only [e1', e2, a0, obs, asP_pointer, asB_bool, asI_int, asS_string, asSl_slice, asM_map, asTup0, asTup1, asTup2, asTup3, asTup4, asTup5, asTup6, asTup7, asTup8, asTup9, asAgg2, asAgg3, asAgg4, asAgg5, asAgg6, asAgg7, asAgg8, asAgg9, asAgg12, getD0, getD1, getD2, getD3, getD4, getD5, getD6, getD7, getD8, getD9, getD10, getD11, getD12, getD13, getD14, getD15, getD16, getD17, getD18, getD19, Bool.not_true, Bool.not_false, Bool.false_eq_true, Bool.true_eq_false, ↓reduceIte, decide_true, decide_false, Option.isNone_some, Option.isNone_none, Option.isSome_some, Option.isSome_none, beq_self_eq_true, bne_self_eq_false, Bool.and_true, Bool.true_and, Bool.and_false, Bool.false_and, not_true_eq_false, not_false_eq_true]
  rw [g5_l8_x0_of g1]
  unfold g5_l8_x0
  simp only [e4, w1', w2', w3', w4', w5', q1, q2, obs, asP_pointer, asB_bool, asI_int, asS_string, asSl_slice, asM_map, asTup0, asTup1, asTup2, asTup3, asTup4, asTup5, asTup6, asTup7, asTup8, asTup9, asAgg2, asAgg3, asAgg4, asAgg5, asAgg6, asAgg7, asAgg8, asAgg9, asAgg12, getD0, getD1, getD2, getD3, getD4, getD5, getD6, getD7, getD8, getD9, getD10, getD11, getD12, getD13, getD14, getD15, getD16, getD17, getD18, getD19, Bool.not_true, Bool.not_false, Bool.false_eq_true, Bool.true_eq_false, ↓reduceIte, decide_true, decide_false, Option.isNone_some, Option.isNone_none, Option.isSome_some, Option.isSome_none, beq_self_eq_true, bne_self_eq_false, Bool.and_true, Bool.true_and, Bool.and_false, Bool.false_and, not_true_eq_false, not_false_eq_true]
end Go.Proofs.Ytjcenfgmpbeldaa
