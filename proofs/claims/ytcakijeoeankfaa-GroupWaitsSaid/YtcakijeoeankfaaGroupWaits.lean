/-
  GroupWaits: lemmas on what Go functions of this seat come to (for whatever arguments, as each says). No condition but those that stand in each lemma.
-/
import Derived.Test.YtcakijeoeankfaaGroupL5
import Derived.Test.YtcakijeoeankfaaGroupK
namespace Go.Proofs.Ytcakijeoeankfaa
open Go Go.Ev
set_option maxRecDepth 100000
set_option linter.unusedVariables false
set_option linter.unusedSimpArgs false

theorem freshG {W w w' : World} {D D' : Nat → Prop} (hF : Fr [] W w) (c : Chg D w w' D') (hD : ∀ y, D y → W.heap.size ≤ y) : Fr [] W w' ∧ ∀ y, D' y → W.heap.size ≤ y := by
  obtain ⟨S, f, hS⟩ := c.fr
  have n := c.new
  have z := hF.size
  refine ⟨(Fr.mono (Fr.app hF f) (by have z0_ := Fr.size hF; have z1_ := Fr.size f; intro y_ hy_ hl_; grind [blkOf])), fun y hy => ?_⟩
  rcases n y hy with hh | hh
  · exact hD y hh
  · omega

theorem offG_do {T : List (Int × TV)} {n part x : Int} : offG (doT T ⟨2, n, 0, [], part, x⟩) n part = maxI x (offG T n part) := by
  unfold offG doT
  rw [kget_ups, if_pos rfl]
  simp only [stepG]
  rw [if_neg (by decide)]
  simp only [kget_ups, if_pos]
  cases h : kget T n with
  | none => simp [tv0, kget_nil]
  | some t => simp

theorem waits_round {W w : World} {D : Nat → Prop} {b k : Nat} {T : List (Int × TV)} {u0 : Option Addr × Nat × Nat} {vs : List Int} {n1 : Bool} {n2 : Int} (h2 : 0 ≤ n2 ∧ n2 ≤ 255)
    (h : St w D b T []) (hD : ∀ y, D y → W.heap.size ≤ y) (hF : Fr [] W w) (hs : SlI .u16 W u0 vs) (hr : ∀ z ∈ vs, 0 ≤ z ∧ z ≤ 65535) (hk : k < vs.length) (hl : vs.length ≤ 9223372036854775807) :
    ∃ (T' : List (Int × TV)) (D' : Nat → Prop) (w' : World), g5_l6_b u0 n2 (some ⟨b, 0, none⟩) n1 (false, offG T 1 (Int.tmod n2 4), (k : Int)) w = some (.normal, (false, offG T' 1 (Int.tmod n2 4), ((k + 1 : Nat) : Int)), w') ∧ St w' D' b T' [] ∧ (∀ y, D' y → W.heap.size ≤ y) ∧ Fr [] W w' := by
  obtain ⟨a, i1, c1⟩ := (hs.fr3 hF (by simp)).get hk
  have hx := hr _ (List.getElem_mem hk)
  obtain ⟨x, hxx⟩ : ∃ x, vs[k] = x := ⟨_, rfl⟩
  rw [hxx] at c1 hx
  have hlen := hs.1
  have k0 : decide ((k : Int) < (u0.2.1 : Int)) = true := by simp; omega
  have hp0 := Int.tmod_nonneg 4 h2.1
  have hp1 := Int.tmod_lt_of_pos n2 (show (0 : Int) < 4 by omega)
  obtain ⟨kk, hkk⟩ : ∃ kk, Int.tmod n2 4 = kk := ⟨_, rfl⟩
  rw [hkk] at hp0 hp1 ⊢
  have w1 : IntKind.i64.wrap kk = kk := wrap_i64 (by omega) (by omega)
  have w2 : IntKind.i64.wrap x = x := wrap_i64 (by omega) (by omega)
  have w3 : IntKind.i64.wrap (kk + 1) = kk + 1 := wrap_i64 (by omega) (by omega)
  have hpd : ∃ pid : Int, IntKind.u64.wrap (IntKind.i64.wrap (1 + Int.tmod (k : Int) 2)) = pid ∧ pid > 0 := by
    have q0 := Int.tmod_nonneg 2 (show (0 : Int) ≤ (k : Int) by omega)
    have q1 := Int.tmod_lt_of_pos (k : Int) (show (0 : Int) < 2 by omega)
    exact ⟨_, rfl, by rw [wrap_i64 (by omega) (by omega), wrap_u64 (by omega) (by omega)]; omega⟩
  obtain ⟨pid, hpid, hpos⟩ := hpd
  have dp : decide (pid > 0) = true := by simp; omega
  let r : GV := ⟨2, 1, 0, [], kk, x⟩
  have hok : r.Ok := ⟨by show _ ≤ (2 : Int) ∧ (2 : Int) ≤ _; omega, by show _ ≤ (1 : Int) ∧ (1 : Int) ≤ _; omega, by show _ ≤ (0 : Int) ∧ (0 : Int) ≤ _; omega, by show _ ≤ kk ∧ kk ≤ _; omega, by show _ ≤ x ∧ x ≤ _; omega, by simp [r]⟩
  have hbad : ¬ badG r := by
    unfold badG
    simp only [r, riseB, List.length_nil]
    simp; omega
  obtain ⟨w12, s12, b12, f12, l12⟩ := newG w r (none, 0, 0)
  simp only [r] at s12 l12
  have fa : Fr [] w12 (w12.alloc (.cells #[.int .i64 2, .int .i64 1, .int .i64 0, .slice none 0 0, .int .i64 kk, .int .i64 x] 27)) := Fr.alloc _
  have ba := Blk.new w12 (r.cs (none, 0, 0)) 27
  change Blk (w12.alloc (.cells #[.int .i64 2, .int .i64 1, .int .i64 0, .slice none 0 0, .int .i64 kk, .int .i64 x] 27)) _ _ _ at ba
  obtain ⟨w13, hw13⟩ : ∃ w13, w12.alloc (.cells #[.int .i64 2, .int .i64 1, .int .i64 0, .slice none 0 0, .int .i64 kk, .int .i64 x] 27) = w13 := ⟨_, rfl⟩
  rw [hw13] at fa ba
  have su : SlC w13 6 (some ⟨w12.heap.size, 0, none⟩, 1, 1) (r.cs (none, 0, 0)) := ⟨rfl, fun _ => ⟨w12.heap.size, 0, rfl, ba.lt, fun i hi => by
      have := ba.cell i
      rw [Nat.zero_add, this]
      exact List.getElem?_eq_getElem hi⟩⟩
  obtain ⟨v, e, w14, e14, ov, oe, f14, nv, ne⟩ := batch21 w13 (pid := pid) (u := (some ⟨w12.heap.size, 0, none⟩, 1, 1)) rfl su ⟨rfl, fun hh => absurd hh (by simp)⟩ hok hbad
  rw [dp] at e14
  have F14 : Fr [] w w14 := (Fr.mono (Fr.app (Fr.app f12 fa) f14) (by have z0_ := Fr.size f12; have z1_ := Fr.size fa; have z2_ := Fr.size f14; intro y_ hy_ hl_; grind [blkOf]))
  have h14 := h.fr F14 (by simp)
  have hlt := h.lt
  have z13 : w.heap.size ≤ w13.heap.size := by have := f12.size; have := fa.size; omega
  obtain ⟨w15, q', q, e15, h15, oq', oq, ⟨S15, f15, hS15⟩, nq', nq⟩ := apply20t h14 pid ov.slC oe.slI hok hbad (fun y hy hd => by have := nv y hy; have := hlt y hd; omega) (fun y hy hd => by have := ne y hy; have := hlt y hd; omega)
  have F15 : Fr [] W w15 := by
    have FW : Fr [] W w14 := (Fr.mono (Fr.app hF F14) (by have z0_ := Fr.size hF; have z1_ := Fr.size F14; intro y_ hy_ hl_; grind [blkOf]))
    exact (FW.app f15).mono (by intro y hy hl; simp at hy; have := hD y (hS15 y hy); omega)
  obtain ⟨w16, e16, f16⟩ := offset22w h15 oq' 1 kk
  rw [if_pos ⟨rfl, rfl, rfl⟩] at e16
  have h16 := h15.fr f16 (by simp)
  obtain ⟨w17, e17, f17⟩ := offset22w h16 (oq'.fr f16 (by simp)) 1 (kk + 1)
  rw [if_neg (by intro hh; have : kk = kk + 1 := hh.2.2; omega)] at e17
  have h17 := h16.fr f17 (by simp)
  have F67 : Fr [] w15 w17 := (Fr.mono (Fr.app f16 f17) (by have z0_ := Fr.size f16; have z1_ := Fr.size f17; intro y_ hy_ hl_; grind [blkOf]))
  have z14 := F14.size
  obtain ⟨com, hcom⟩ : ∃ com, (n1 == decide (Int.tmod (k : Int) 3 > 0)) = com := ⟨_, rfl⟩
  have z15 : w14.heap.size ≤ w15.heap.size := f15.size
  obtain ⟨w18, D8, e18, h18, C8⟩ := apply20c (r := r) h17 com (oq'.fr F67 (by simp)) (oq.fr F67 (by simp)) (by simp [r]) (fun y hy hd => by have := nq y hy; have := hlt y hd; omega) (fun y hy hd => by have := nq' y hy; have := hlt y hd; omega)
  have F17 : Fr [] W w17 := (Fr.mono (Fr.app F15 F67) (by have z0_ := Fr.size F15; have z1_ := Fr.size F67; intro y_ hy_ hl_; grind [blkOf]))
  obtain ⟨F18, n8⟩ := freshG F17 C8 hD
  obtain ⟨w19, e19, f19⟩ := offset22 h18 1 kk
  have h19 := h18.fr f19 (by simp)
  simp only [btA] at e14 e15 e18
  have e14' : callF Try.prog 21 #[.int .u64 pid, .slice (some ⟨w12.heap.size, 0, none⟩) 1 1] w13 = some (.agg #[.int .i64 0, .int .i64 0, .int .u64 pid, .int .i64 0, .int .i64 0, .bool true, .bool false, .bool false, .slice v.1 v.2.1 v.2.2], w14) := e14
  have e15' := e15
  have kw := wrap_succ (n := k) (by omega)
  have n0 : ((0 : Int) != 0) = false := rfl
  have n16 : ((16 : Int) != 16) = false := rfl
  have n00 : ∀ z : Int, (z != z) = false := fun z => by simp
  refine ⟨if com then doT T r else T, D8, w19, ?_, h19, n8, (Fr.mono (Fr.app F18 f19) (by have z0_ := Fr.size F18; have z1_ := Fr.size f19; intro y_ hy_ hl_; grind [blkOf]))⟩
  unfold g5_l6_b
  simp only [k0, i1, c1, hkk, w1, w2, w3, s12, l12, hpid, hw13, e14', e15', e16, e17, n0, n16, hcom, e18, obs, asP_pointer, asB_bool, asI_int, asS_string, asSl_slice, asM_map, asTup0, asTup1, asTup2, asTup3, asTup4, asTup5, asTup6, asTup7, asTup8, asTup9, asAgg2, asAgg3, asAgg4, asAgg5, asAgg6, asAgg7, asAgg8, asAgg9, asAgg12, getD0, getD1, getD2, getD3, getD4, getD5, getD6, getD7, getD8, getD9, getD10, getD11, getD12, getD13, getD14, getD15, getD16, getD17, getD18, getD19, Bool.not_true, Bool.not_false, Bool.false_eq_true, Bool.true_eq_false, ↓reduceIte, decide_true, decide_false, Option.isNone_some, Option.isNone_none, Option.isSome_some, Option.isSome_none, beq_self_eq_true, bne_self_eq_false, Bool.and_true, Bool.true_and, Bool.and_false, Bool.false_and, not_true_eq_false, not_false_eq_true]
  cases com with
  | true =>
    simp only [if_true] at e19 ⊢
    have hoff : offG (doT T r) 1 kk = maxI x (offG T 1 kk) := offG_do
    rw [hoff] at e19 ⊢
    unfold maxI at e19 ⊢
    simp only [e19, n00, kw, obs, asP_pointer, asB_bool, asI_int, asS_string, asSl_slice, asM_map, asTup0, asTup1, asTup2, asTup3, asTup4, asTup5, asTup6, asTup7, asTup8, asTup9, asAgg2, asAgg3, asAgg4, asAgg5, asAgg6, asAgg7, asAgg8, asAgg9, asAgg12, getD0, getD1, getD2, getD3, getD4, getD5, getD6, getD7, getD8, getD9, getD10, getD11, getD12, getD13, getD14, getD15, getD16, getD17, getD18, getD19, Bool.not_true, Bool.not_false, Bool.false_eq_true, Bool.true_eq_false, ↓reduceIte, decide_true, decide_false, Option.isNone_some, Option.isNone_none, Option.isSome_some, Option.isSome_none, beq_self_eq_true, bne_self_eq_false, Bool.and_true, Bool.true_and, Bool.and_false, Bool.false_and, not_true_eq_false, not_false_eq_true]
  | false =>
    simp only [Bool.false_eq_true, if_false] at e19 ⊢
    simp only [e19, n00, kw, obs, asP_pointer, asB_bool, asI_int, asS_string, asSl_slice, asM_map, asTup0, asTup1, asTup2, asTup3, asTup4, asTup5, asTup6, asTup7, asTup8, asTup9, asAgg2, asAgg3, asAgg4, asAgg5, asAgg6, asAgg7, asAgg8, asAgg9, asAgg12, getD0, getD1, getD2, getD3, getD4, getD5, getD6, getD7, getD8, getD9, getD10, getD11, getD12, getD13, getD14, getD15, getD16, getD17, getD18, getD19, Bool.not_true, Bool.not_false, Bool.false_eq_true, Bool.true_eq_false, ↓reduceIte, decide_true, decide_false, Option.isNone_some, Option.isNone_none, Option.isSome_some, Option.isSome_none, beq_self_eq_true, bne_self_eq_false, Bool.and_true, Bool.true_and, Bool.and_false, Bool.false_and, not_true_eq_false, not_false_eq_true]

theorem GroupWaits_main (W : World) (x0 : (Ty.slice (.int .u16)).Val) (h0 : (Ty.slice (.int .u16)).At W [.slice x0.1.1 x0.1.2.1 x0.1.2.2] x0) (n1 : Bool) (n2 : Int) (h2 : IntKind.u8.min ≤ n2 ∧ n2 ≤ IntKind.u8.max) :
    ∃ w', callF Try.prog 5 #[.slice x0.1.1 x0.1.2.1 x0.1.2.2, .bool n1, .int .u8 n2] W = some (.bool true, w') ∧ Fr [] W w' := by
  obtain ⟨hsI, hle, _⟩ := slI_of_at h0
  have hlen := hsI.1
  have hml : maxLen = 9223372036854775807 := by decide
  have hlb : x0.2.length ≤ 9223372036854775807 := by have h1 := h0.2.1; have h3 := h0.2.2.1; have h4 := h0.2.2.2.1; omega
  obtain ⟨w1, D1, e1, h1, f1, n1'⟩ := new19 W
  obtain ⟨w2, e2, f2⟩ := awake9 w1
  have h2' := h1.fr f2 (by simp)
  have F2 : Fr [] W w2 := (Fr.mono (Fr.app f1 f2) (by have z0_ := Fr.size f1; have z1_ := Fr.size f2; intro y_ hy_ hl_; grind [blkOf]))
  obtain ⟨t, w3, g1, T, D, rfl, h3, hD, hF⟩ := loopS_countX 0 (b := g5_l6_b x0.1 n2 (some ⟨W.heap.size + 2, 0, none⟩) n1) (n := x0.2.length)
    (I := fun k s x => ∃ T D, s = (false, offG T 1 (Int.tmod n2 4), (k : Int)) ∧ St x D (W.heap.size + 2) T [] ∧ (∀ y, D y → W.heap.size ≤ y) ∧ Fr [] W x)
    (fun k s x hk ⟨T, D, hs, h, hD, hF⟩ => by
      subst hs
      obtain ⟨T', D', w', g, h', hD', hF'⟩ := waits_round (n1 := n1) (n2 := n2) h2 h hD hF hsI hle hk (by omega)
      exact ⟨_, w', g, T', D', rfl, h', hD', hF'⟩)
    (fun s x ⟨T, D, hs, _⟩ => by
      subst hs
      unfold g5_l6_b
      have k0 : decide ((x0.2.length : Int) < (x0.1.2.1 : Int)) = false := by simp; omega
      simp only [k0, Bool.false_eq_true, if_false]) (k := 0) (s := (false, 0, 0)) (w := w2) (Nat.zero_le _) ⟨[], D1, rfl, h2', n1', F2⟩
  refine ⟨w3, g5_call ?_, hF⟩
  unfold g5
  simp only [e1, e2, obs, asP_pointer, asB_bool, asI_int, asS_string, asSl_slice, asM_map, asTup0, asTup1, asTup2, asTup3, asTup4, asTup5, asTup6, asTup7, asTup8, asTup9, asAgg2, asAgg3, asAgg4, asAgg5, asAgg6, asAgg7, asAgg8, asAgg9, asAgg12, getD0, getD1, getD2, getD3, getD4, getD5, getD6, getD7, getD8, getD9, getD10, getD11, getD12, getD13, getD14, getD15, getD16, getD17, getD18, getD19, Bool.not_true, Bool.not_false, Bool.false_eq_true, Bool.true_eq_false, ↓reduceIte, decide_true, decide_false, Option.isNone_some, Option.isNone_none, Option.isSome_some, Option.isSome_none, beq_self_eq_true, bne_self_eq_false, Bool.and_true, Bool.true_and, Bool.and_false, Bool.false_and, not_true_eq_false, not_false_eq_true]
  rw [g5_l6_x0_of g1, g5_l6_x0]
end Go.Proofs.Ytcakijeoeankfaa
