/-
  WalBytes: lemmas on what Go functions of this seat come to (for whatever arguments, as each says). No condition but those that stand in each lemma.
-/
import Derived.Test.YtnflklkjjjlpaaaWalG
import Derived.Test.YtnflklkjjjlpaaaWalL3
namespace Go.Proofs.Ytnflklkjjjlpaaa
open Go Go.Ev Go.Crc
set_option maxRecDepth 100000
set_option linter.unusedVariables false
set_option linter.unusedSimpArgs false

/-- what holds while the log is filled -/
structure BInv (W : World) (wb fb tb b : Nat) (ps : List (List Int)) (k : Nat) (x : World) (q : Option Addr × Nat × Nat) : Prop where
  ex : ∃ D, WS x D b [(nmW, encs (ps.take k), 0)] (-1) false wb fb tb nmW (k : Int) ∧ (∀ y, D y → W.heap.size ≤ y) ∧ ∀ y ∈ blkOf q, ¬ D y ∧ ¬ Xw wb fb tb y
  hX : ∀ y, Xw wb fb tb y → W.heap.size ≤ y
  fr : Fr [] W x
  own : Own x 5 1 q ((encs (ps.take k)).map (Value.int .u8))
  new : ∀ y ∈ blkOf q, W.heap.size ≤ y
  len : (encs (ps.take k)).length ≤ 600000

theorem bytes_round {W : World} {u : Option Addr × Nat × Nat} {ps : List (List Int)} {wb fb tb b : Nat} (hL : Lst .u8 W (fun y => y < W.heap.size) u ps) (hz : ∀ p ∈ ps, Zs p) (hs : ∀ p ∈ ps, p.length ≤ 4096) {k : Nat} (hk : k < ps.length) {x : World} {q : Option Addr × Nat × Nat}
    (h : BInv W wb fb tb b ps k x q) :
    (∃ s, g3_l21_b u (some ⟨wb, 0, none⟩) (some ⟨b, 0, none⟩) (false, q, (k : Int)) x = some (.ret, s, x) ∧ s.1 = true) ∨
    ∃ q' x', g3_l21_b u (some ⟨wb, 0, none⟩) (some ⟨b, 0, none⟩) (false, q, (k : Int)) x = some (.normal, (false, q', ((k + 1 : Nat) : Int)), x') ∧ BInv W wb fb tb b ps (k + 1) x' q' := by
  obtain ⟨⟨D, s0, hD, hq⟩, hX, hf, ho, hn, hl⟩ := h
  have hlen := hL.len
  have hql := ho.len
  simp only [List.length_map, Nat.mul_one] at hql
  have h8 : 8 * k ≤ (encs (ps.take k)).length := by
    have : ∀ j, j ≤ ps.length → 8 * j ≤ (encs (ps.take j)).length := by
      intro j
      induction j with
      | zero => intro _; simp
      | succ j ih => intro hj; rw [encs_take_succ (by omega)]; have := ih (by omega); omega
    exact this k (by omega)
  obtain ⟨a, q7, i1, c1, r1, _, b1⟩ := (hL.fr hf (by simp)).get hk
  have hc : (k : Int) < (u.2.1 : Int) := by omega
  have hpl := hs _ (List.getElem_mem hk)
  have hpz := hz _ (List.getElem_mem hk)
  by_cases hbig : (q.2.1 : Int) > 524288
  · left
    refine ⟨(true, q, (k : Int)), ?_, rfl⟩
    unfold g3_l21_b
    simp only [hc, i1, c1, hbig, Option.bind_some, asP_pointer, asB_bool, asI_int, asS_string, asSl_slice, asM_map, asTup0, asTup1, asTup2, asTup3, asTup4, asTup5, getD0, getD1, getD2, getD3, getD4, Bool.not_true, Bool.not_false, Bool.false_eq_true, Bool.true_eq_false, ↓reduceIte, decide_true, decide_false, Option.isNone_some, Option.isNone_none, Option.isSome_some, Option.isSome_none, beq_self_eq_true, bne_self_eq_false, Bool.and_true, Bool.true_and, Bool.and_false, Bool.false_and, not_true_eq_false, not_false_eq_true]
  · right
    have hs := wrap_succ (n := k) (by omega)
    have z0 := hf.size
    obtain ⟨q9, x1, e1, o1, f1, h1⟩ := docencR r1 hpz
    have er : encR ps[k] = (enc ps[k], 0) := by unfold encR; rw [if_pos hpl]
    rw [er] at e1 o1
    have hml : maxLen = 9223372036854775807 := by decide
    have z1 := f1.size
    have l9 := o1.len
    simp only [List.length_map, Nat.mul_one, enc_length] at l9
    obtain ⟨q11, x2, e2, o2, f2, h2, l2⟩ := app_sl t28 (ho.fr f1 (by simp)) o1.slI.slC oc8 (by omega) (by omega) 31 #[false, false]
    have z2 := f2.size
    have hlt := own_lt ho
    have hltD := s0.dk.lt
    have hltX := s0.wl.lt
    have F12 : Fr (blkOf q) x x2 := (Fr.mono (Fr.app f1 f2) (by have z0_ := Fr.size f1; have z1_ := Fr.size f2; intro y_ hy_ hl_; grind [blkOf]))
    have s2 := s0.fr F12 (by intro y hy _; exact hq y hy)
    have hq11 : ∀ y ∈ blkOf q11, ¬ D y ∧ ¬ Xw wb fb tb y ∧ W.heap.size ≤ y := by
      intro y hy
      rcases h2 y hy with hh | hh
      · exact ⟨(hq y hh).1, (hq y hh).2, hn y hh⟩
      · exact ⟨fun hd => by have := hltD y hd; omega, fun hd => by have := hltX y hd; omega, by omega⟩
    have F2 : Fr [] W x2 := (Fr.mono (Fr.app hf F12) (by have z0_ := Fr.size hf; have z1_ := Fr.size F12; intro y_ hy_ hl_; grind [blkOf]))
    have r2' : Sl8 x2 q7 ps[k] := by
      rcases Nat.eq_zero_or_pos ps[k].length with h0 | h0
      · exact ⟨r1.1, fun h => by have := r1.1; omega⟩
      · refine r1.fr2 F12 ?_
        intro y hy hm
        have := b1 h0 y hy; have := hn y hm; omega
    obtain ⟨x3, D3, e3, s3, c3⟩ := wapp (count := k) s2 r2' hpz (fun h0 hm => by have := b1 h0 tb hm; have := hX tb (.inr (.inr rfl)); omega) (by omega)
    rw [wapp_one hpl (by omega)] at e3 s3
    simp only [if_true] at s3
    have hn3 := c3.new
    obtain ⟨F3, hD3⟩ := c3.fresh F2 hD hX
    have h00 : ((0 : Int) != 0) = false := by decide
    refine ⟨q11, x3, ?_, ⟨D3, ?_, hD3, ?_⟩, hX, F3, ?_, fun y hy => (hq11 y hy).2.2, ?_⟩
    · unfold g3_l21_b
      simp only [hc, i1, c1, hbig, e1, e2, e3, h00, hs, Option.bind_some, asP_pointer, asB_bool, asI_int, asS_string, asSl_slice, asM_map, asTup0, asTup1, asTup2, asTup3, asTup4, asTup5, getD0, getD1, getD2, getD3, getD4, Bool.not_true, Bool.not_false, Bool.false_eq_true, Bool.true_eq_false, ↓reduceIte, decide_true, decide_false, Option.isNone_some, Option.isNone_none, Option.isSome_some, Option.isSome_none, beq_self_eq_true, bne_self_eq_false, Bool.and_true, Bool.true_and, Bool.and_false, Bool.false_and, not_true_eq_false, not_false_eq_true]
    · have : encs (ps.take (k + 1)) = encs (ps.take k) ++ enc ps[k] := by rw [List.take_succ_eq_append_getElem hk, encs_append, encs_one]
      rw [this]; exact s3
    · intro y hy
      refine ⟨fun hd => ?_, (hq11 y hy).2.1⟩
      rcases hn3 y hd with hh | hh
      · exact (hq11 y hy).1 hh
      · have := own_lt o2 y hy; omega
    · have : (encs (ps.take (k + 1))).map (Value.int .u8) = (encs (ps.take k)).map (Value.int .u8) ++ (enc ps[k]).map (Value.int .u8) := by rw [List.take_succ_eq_append_getElem hk, encs_append, encs_one, List.map_append]
      rw [this]
      obtain ⟨S, f, hS⟩ := c3.fr
      exact o2.fr f (by intro y hm hy; rcases hS y hy with hh | hh; exact (hq11 y hm).1 hh; exact (hq11 y hm).2.1 hh)
    · rw [encs_take_succ hk]; omega

theorem WalBytes_main (W : World) (x0 : (Ty.slice (.slice (.int .u8))).Val) (h0 : (Ty.slice (.slice (.int .u8))).At W [.slice x0.1.1 x0.1.2.1 x0.1.2.2] x0) :
    ∃ w', callF Try.prog 3 #[.slice x0.1.1 x0.1.2.1 x0.1.2.2] W = some (.bool true, w') ∧ Fr [] W w' := by
  obtain ⟨hL, hz, hcap⟩ := lst_of_at h0
  replace hz := u8s hz
  have hml : maxLen = 9223372036854775807 := by decide
  have hmx := h0.2.2.2.1
  obtain ⟨ps, hps⟩ : ∃ ps : List (List Int), x0.2.map (·.2) = ps := ⟨_, rfl⟩
  rw [hps] at hL hz
  generalize x0.1 = u0 at hL hcap hmx
  have hLl := hL.len
  obtain ⟨w1, w2, D, wb, fb, tb, z, q, e1, e2, s2, F2, hD, hX, hq, _, _⟩ := start W
  obtain ⟨w3, e3, f3⟩ := awake11 (w := w2)
  have F3 : Fr [] W w3 := (Fr.mono (Fr.app F2 f3) (by have z0_ := Fr.size F2; have z1_ := Fr.size f3; intro y_ hy_ hl_; grind [blkOf]))
  have s3 := s2.fr f3 (by simp)
  have e4 := long12 (hL.fr F3 (by simp)) (by omega)
  have e2' : callF Try.prog 10 #[.pointer (some ⟨W.heap.size + 1, 0, none⟩), .string (⟨#[119]⟩ : ByteArray)] w1 = _ := e2
  have h00 : ((0 : Int) != 0) = false := by decide
  by_cases hlong : longP ps = true
  · rw [hlong] at e4
    obtain ⟨w4, e5, f5⟩ := awake11 (w := w3)
    refine ⟨w4, g3_call ?_, (Fr.mono (Fr.app F3 f5) (by have z0_ := Fr.size F3; have z1_ := Fr.size f5; intro y_ hy_ hl_; grind [blkOf]))⟩
    unfold g3
    simp only [e1, e2', e3, h00, e4, e5, Option.bind_some, asP_pointer, asB_bool, asI_int, asS_string, asSl_slice, asM_map, asTup0, asTup1, asTup2, asTup3, asTup4, asTup5, getD0, getD1, getD2, getD3, getD4, Bool.not_true, Bool.not_false, Bool.false_eq_true, Bool.true_eq_false, ↓reduceIte, decide_true, decide_false, Option.isNone_some, Option.isNone_none, Option.isSome_some, Option.isSome_none, beq_self_eq_true, bne_self_eq_false, Bool.and_true, Bool.true_and, Bool.and_false, Bool.false_and, not_true_eq_false, not_false_eq_true]
  · have hlong' : longP ps = false := by simpa using hlong
    rw [hlong'] at e4
    have hs := longP_false hlong'
    obtain ⟨e, t, w5, q1, q2⟩ := loopS_rule (b := g3_l21_b u0 (some ⟨wb, 0, none⟩) (some ⟨W.heap.size + 1, 0, none⟩))
      (I := fun k s x => ∃ q, s = (false, q, (k : Int)) ∧ BInv W wb fb tb (W.heap.size + 1) ps k x q)
      (Q := fun e s x => (e = .ret ∧ s.1 = true ∧ Fr [] W x) ∨ (e = .exit 0 ∧ ∃ q n, s = (false, q, n) ∧ BInv W wb fb tb (W.heap.size + 1) ps ps.length x q)) (n := ps.length)
      (fun k s x hk ⟨q, hs', hi⟩ => by
        subst hs'
        rcases bytes_round hL hz hs hk hi with ⟨s, g1, g2⟩ | ⟨q', x', g1, g2⟩
        · exact ⟨.ret, s, x, g1, .inr ⟨by simp, .inl ⟨rfl, g2, hi.fr⟩⟩⟩
        · exact ⟨.normal, _, x', g1, .inl ⟨rfl, q', rfl, g2⟩⟩)
      (fun s x ⟨q, hs', hi⟩ => by
        subst hs'
        have hc : ¬ ((ps.length : Nat) : Int) < (u0.2.1 : Int) := by omega
        refine ⟨.exit 0, (false, q, ((ps.length : Nat) : Int)), x, ?_, by simp, .inr ⟨rfl, q, _, rfl, hi⟩⟩
        unfold g3_l21_b
        simp only [hc, Option.bind_some, asP_pointer, asB_bool, asI_int, asS_string, asSl_slice, asM_map, asTup0, asTup1, asTup2, asTup3, asTup4, asTup5, getD0, getD1, getD2, getD3, getD4, Bool.not_true, Bool.not_false, Bool.false_eq_true, Bool.true_eq_false, ↓reduceIte, decide_true, decide_false, Option.isNone_some, Option.isNone_none, Option.isSome_some, Option.isSome_none, beq_self_eq_true, bne_self_eq_false, Bool.and_true, Bool.true_and, Bool.and_false, Bool.false_and, not_true_eq_false, not_false_eq_true])
      (Nat.zero_le _) (k := 0) (s := (false, (none, 0, 0), 0)) (w := w3) ⟨(none, 0, 0), rfl, ⟨D, by simpa [encs] using s3, hD, by simp [blkOf]⟩, hX, F3, by simpa [encs] using Own.nil _ _ _, by simp [blkOf], by simp [encs]⟩
    rcases q2 with ⟨rfl, ht, F5⟩ | ⟨rfl, qq, n, rfl, hi⟩
    · refine ⟨w5, g3_call ?_, F5⟩
      unfold g3
      simp only [e1, e2', e3, h00, e4, g3_l21_ret_of q1, g3_l21_ret, ht, Option.bind_some, asP_pointer, asB_bool, asI_int, asS_string, asSl_slice, asM_map, asTup0, asTup1, asTup2, asTup3, asTup4, asTup5, getD0, getD1, getD2, getD3, getD4, Bool.not_true, Bool.not_false, Bool.false_eq_true, Bool.true_eq_false, ↓reduceIte, decide_true, decide_false, Option.isNone_some, Option.isNone_none, Option.isSome_some, Option.isSome_none, beq_self_eq_true, bne_self_eq_false, Bool.and_true, Bool.true_and, Bool.and_false, Bool.false_and, not_true_eq_false, not_false_eq_true]
    · obtain ⟨⟨D5, s5, hD5, hq5⟩, _, F5, o5, n5, l5⟩ := hi
      rw [List.take_length] at s5 o5 l5
      obtain ⟨q6, w6, e6, o6, f6, h6, _, _⟩ := read15 s5.dk nmW
      have er : readA [(nmW, encs ps, 0)] false nmW = (encs ps, 0) := by unfold readA; rw [if_neg (by decide)]; simp [kget_cons]
      rw [er] at e6 o6
      have s6 := s5.fr f6 (by simp)
      have ea := open_has (A := [(nmW, encs ps, 0)]) (fuse := -1) (n := nmW) (d := encs ps) (s := 0) (by simp [kget_cons])
      rw [scan_all hs] at ea
      simp only [Nat.lt_irrefl, if_false] at ea
      obtain ⟨w7, D7, d7, c7, h7⟩ := open10 s6.dk nmW
      rw [ea] at h7 d7
      rcases h7 with ⟨h7, _⟩ | ⟨_, wb', fb', tb', z', q7, e7, wl7, hX7, hz7, hD7, hL7⟩
      · exact absurd rfl h7
      · obtain ⟨S7, f7, hS7⟩ := c7.fr
        have s7 := s6.step d7 c7
        have F6 : Fr [] W w6 := (Fr.mono (Fr.app F5 f6) (by have z0_ := Fr.size F5; have z1_ := Fr.size f6; intro y_ hy_ hl_; grind [blkOf]))
        obtain ⟨F7, hD7'⟩ := chg_fresh c7 F6 hD5
        have o6' : Own w7 5 1 q6 _ := o6.fr f7 (by intro y hm hy; have := s5.dk.lt y (hS7 y hy); have := h6 y hm; omega)
        have o5' : Own w7 5 1 qq _ := (o5.fr f6 (by simp)).fr f7 (by intro y hm hy; exact (hq5 y hm).1 (hS7 y hy))
        obtain ⟨w8, e8, f8⟩ := same14 o6'.slI o5'.slI (by show (encs ps).length < _; omega)
        have hpl : ∀ p ∈ ps, p.length < 9223372036854775807 := fun p hp => by have := hs p hp; omega
        have h8l : ps.length ≤ 9223372036854775806 := by
          have : ∀ j, j ≤ ps.length → 8 * j ≤ (encs (ps.take j)).length := by
            intro j
            induction j with
            | zero => intro _; simp
            | succ j ih => intro hj; rw [encs_take_succ (by omega)]; have := ih (by omega); omega
          have := this ps.length (Nat.le_refl _)
          rw [List.take_length] at this; omega
        obtain ⟨w9, e9, f9⟩ := samelist19 ((hL7.fr (stays_o _ _ _) f8 (by simp)).lst') (hL.fr (F7.trans f8) (by simp)) (by show ps.length < _; omega) hpl
        have F9 : Fr [] W w9 := (Fr.mono (Fr.app (Fr.app F7 f8) f9) (by have z0_ := Fr.size F7; have z1_ := Fr.size f8; have z2_ := Fr.size f9; intro y_ hy_ hl_; grind [blkOf]))
        have s9 := (s7.fr f8 (by simp)).fr f9 (by simp)
        have e10 := count18 s9.wl
        have hd1 : decide (encs ps = encs ps) = true := by simp
        have hd2 : decide (ps = ps) = true := by simp
        have hcnt : ((ps.length : Nat) : Int) = (u0.2.1 : Int) := by omega
        have hceq : (((ps.length : Nat) : Int) == (u0.2.1 : Int)) = true := by simp [hcnt]
        have h000 : ((0 : Int) == 0) = true := by decide
        refine ⟨w9, g3_call ?_, F9⟩
        have e6' : callF Try.prog 15 #[.pointer (some ⟨W.heap.size + 1, 0, none⟩), .string (⟨#[119]⟩ : ByteArray)] w5 = _ := e6
        have e7' : callF Try.prog 10 #[.pointer (some ⟨W.heap.size + 1, 0, none⟩), .string (⟨#[119]⟩ : ByteArray)] w6 = _ := e7
        unfold g3
        simp only [e1, e2', e3, h00, e4, g3_l21_x0_of q1, Option.bind_some, asP_pointer, asB_bool, asI_int, asS_string, asSl_slice, asM_map, asTup0, asTup1, asTup2, asTup3, asTup4, asTup5, getD0, getD1, getD2, getD3, getD4, Bool.not_true, Bool.not_false, Bool.false_eq_true, Bool.true_eq_false, ↓reduceIte, decide_true, decide_false, Option.isNone_some, Option.isNone_none, Option.isSome_some, Option.isSome_none, beq_self_eq_true, bne_self_eq_false, Bool.and_true, Bool.true_and, Bool.and_false, Bool.false_and, not_true_eq_false, not_false_eq_true]
        unfold g3_l21_x0
        simp only [e6', e7', h000, e8, hd1, e9, hd2, e10, hceq, Option.bind_some, asP_pointer, asB_bool, asI_int, asS_string, asSl_slice, asM_map, asTup0, asTup1, asTup2, asTup3, asTup4, asTup5, getD0, getD1, getD2, getD3, getD4, Bool.not_true, Bool.not_false, Bool.false_eq_true, Bool.true_eq_false, ↓reduceIte, decide_true, decide_false, Option.isNone_some, Option.isNone_none, Option.isSome_some, Option.isSome_none, beq_self_eq_true, bne_self_eq_false, Bool.and_true, Bool.true_and, Bool.and_false, Bool.false_and, not_true_eq_false, not_false_eq_true]
end Go.Proofs.Ytnflklkjjjlpaaa
