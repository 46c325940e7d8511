/-
  WalWhole: lemmas on what Go functions of this seat come to (for whatever arguments, as each says). No condition but those that stand in each lemma.
-/
import Derived.Test.YtnflklkjjjlpaaaWalG
import Derived.Test.YtnflklkjjjlpaaaWalL7
namespace Go.Proofs.Ytnflklkjjjlpaaa
open Go Go.Ev Go.Crc
set_option maxRecDepth 100000
set_option linter.unusedVariables false
set_option linter.unusedSimpArgs false

theorem nextW : ¬ nextN nmW = nmW := by decide
theorem nextW' : ¬ nmW = nextN nmW := by decide
theorem okNW : okN (nextN nmW) := by unfold okN; decide

/-- Rewrite of the only file -/
theorem rew_one {d : List Int} {s : Nat} {f : Int} {ps : List (List Int)} (hs : longP ps = false) (hd : d.length ≤ 1000000) (hl : (encs ps).length ≤ 1000000) :
    rewA [(nmW, d, s)] f false nmW ps = if tookN f (encs ps).length < (encs ps).length then (9, [(nmW, d, s), (nextN nmW, (encs ps).take (tookN f (encs ps).length), 0)], fuseN f (encs ps).length, true)
      else (0, [(nmW, encs ps, (encs ps).length)], fuseN f (encs ps).length, false) := by
  have hrm : removeA [(nmW, d, s)] false (nextN nmW) = (4, [(nmW, d, s)]) := by
    unfold removeA; rw [if_neg (by decide)]; simp [kget_cons, nextW, kget_nil]
  have hap : appA [(nmW, d, s)] f false (nextN nmW) (encs ps) = (if tookN f (encs ps).length < (encs ps).length then 9 else 0, [(nmW, d, s), (nextN nmW, (encs ps).take (tookN f (encs ps).length), 0)], fuseN f (encs ps).length, decide (tookN f (encs ps).length < (encs ps).length)) := by
    rcases app_cases (A := [(nmW, d, s)]) (fuse := f) (p := encs ps) okNW with ⟨h1, h2⟩ | ⟨h1, h2⟩
    · exfalso
      have hu : used [(nmW, d, s)] = d.length := by simp [used]
      rw [hu] at h2
      simp at h2; omega
    · rw [h1]; simp [kups, nextW, putF]
  unfold rewA
  rw [if_neg (by rw [hs]; decide), hrm]
  simp only
  rw [if_neg (by decide), hap]
  simp only
  by_cases h : tookN f (encs ps).length < (encs ps).length
  · simp [h]
  · have ht : (encs ps).take (tookN f (encs ps).length) = encs ps := List.take_of_length_le (by omega)
    have hsy : syncA [(nmW, d, s), (nextN nmW, encs ps, 0)] false (nextN nmW) = (0, [(nmW, d, s), (nextN nmW, encs ps, (encs ps).length)]) := by
      unfold syncA; rw [if_neg (by decide)]; simp [kget_cons, nextW, kups, synF]
    have hrn : renameA [(nmW, d, s), (nextN nmW, encs ps, (encs ps).length)] false (nextN nmW) nmW = (0, [(nmW, encs ps, (encs ps).length)]) := by
      unfold renameA; rw [if_neg (by decide)]
      have o1 : ¬ nmW = ByteArray.empty := by decide
      have o2 : nmW.size ≤ 24 := by decide
      simp [kget_cons, nextW, kdel, kups, renF, o1, o2]
    rw [if_neg h, if_neg h, ht]
    simp [h, hsy, hrn]

theorem encs_bound {ps : List (List Int)} (hs : ∀ p ∈ ps, p.length ≤ 4096) : (encs ps).length ≤ 4104 * ps.length := by
  induction ps with
  | nil => simp [encs]
  | cons p l ih =>
    have := ih fun q hq => hs q (by simp [hq])
    have := hs p (by simp)
    rw [encs_cons, List.length_append, enc_length, List.length_cons]; omega

theorem total7 {w : World} {u v : Option Addr × Nat × Nat} {n2 n3 : Int} {p2 p5 : Option Addr} {vs : List (List Int)} {B : Nat → Prop} (hV : Lst .u8 w B v vs) (hl : vs.length ≤ 100) (sv : ∀ p ∈ vs, p.length ≤ 4096) :
    loopS (g7_l38_b v u n2 n3 p2 p5) (0, 0) w = some (.exit 0, (((encs vs).length : Int), (vs.length : Int)), w) := by
  have lv := hV.len
  have bv := encs_bound sv
  obtain ⟨t, w', e, q1, q2⟩ := loopS_count (b := g7_l38_b v u n2 n3 p2 p5) (I := fun k s x => s = (((encs (vs.take k)).length : Int), (k : Int)) ∧ x = w) (n := vs.length)
    (fun k s x hk ⟨hs, hx⟩ => by
      subst hs hx
      obtain ⟨a, q, i1, c1, r1, _, _⟩ := hV.get hk
      have hql := r1.1
      have hc : (k : Int) < (v.2.1 : Int) := by omega
      have hs := wrap_succ (n := k) (by omega)
      have b1 := sv _ (List.getElem_mem hk)
      have b2 := encs_take_le vs k
      have h8 : IntKind.i64.wrap (8 + (q.2.1 : Int)) = 8 + (q.2.1 : Int) := wrap_i64 (by omega) (by omega)
      have h9 : IntKind.i64.wrap (((encs (vs.take k)).length : Int) + (8 + (q.2.1 : Int))) = ((encs (vs.take (k + 1))).length : Int) := by
        rw [wrap_i64 (by omega) (by omega), encs_take_succ hk]; omega
      refine ⟨(((encs (vs.take (k + 1))).length : Int), ((k + 1 : Nat) : Int)), x, ?_, rfl, rfl⟩
      unfold g7_l38_b
      simp only [hc, i1, c1, hs, h8, h9, Option.bind_some, asP_pointer, asB_bool, asI_int, asS_string, asSl_slice, asM_map, asTup0, asTup1, asTup2, asTup3, asTup4, asTup5, getD0, getD1, getD2, getD3, getD4, Bool.not_true, Bool.not_false, Bool.false_eq_true, Bool.true_eq_false, ↓reduceIte, decide_true, decide_false, Option.isNone_some, Option.isNone_none, Option.isSome_some, Option.isSome_none, beq_self_eq_true, bne_self_eq_false, Bool.and_true, Bool.true_and, Bool.and_false, Bool.false_and, not_true_eq_false, not_false_eq_true])
    (fun s x ⟨hs, hx⟩ => by
      subst hs hx
      have hc : ¬ ((vs.length : Nat) : Int) < (v.2.1 : Int) := by omega
      unfold g7_l38_b
      simp only [hc, Option.bind_some, asP_pointer, asB_bool, asI_int, asS_string, asSl_slice, asM_map, asTup0, asTup1, asTup2, asTup3, asTup4, asTup5, getD0, getD1, getD2, getD3, getD4, Bool.not_true, Bool.not_false, Bool.false_eq_true, Bool.true_eq_false, ↓reduceIte, decide_true, decide_false, Option.isNone_some, Option.isNone_none, Option.isSome_some, Option.isSome_none, beq_self_eq_true, bne_self_eq_false, Bool.and_true, Bool.true_and, Bool.and_false, Bool.false_and, not_true_eq_false, not_false_eq_true])
    (Nat.zero_le _) (k := 0) (s := (0, 0)) (w := w) ⟨by simp [encs], rfl⟩
  rw [List.take_length] at q1
  rw [e, q1, q2]

theorem leftN_full (keep : Int) (d : List Int) : crashV keep (d, d.length) = (d, d.length) := by
  have : leftN keep (d, d.length) = d.length := by unfold leftN; simp [Nat.mod_one]
  unfold crashV; rw [this]; simp

theorem WalWhole_main (W : World) (x0 : (Ty.slice (.slice (.int .u8))).Val) (h0 : (Ty.slice (.slice (.int .u8))).At W [.slice x0.1.1 x0.1.2.1 x0.1.2.2] x0) (x1 : (Ty.slice (.slice (.int .u8))).Val) (h1 : (Ty.slice (.slice (.int .u8))).At W [.slice x1.1.1 x1.1.2.1 x1.1.2.2] x1) (n2 : Int) (h2 : IntKind.u16.min ≤ n2 ∧ n2 ≤ IntKind.u16.max) (n3 : Int) (h3 : IntKind.i64.min ≤ n3 ∧ n3 ≤ IntKind.i64.max) :
    ∃ w', callF Try.prog 7 #[.slice x0.1.1 x0.1.2.1 x0.1.2.2, .slice x1.1.1 x1.1.2.1 x1.1.2.2, .int .u16 n2, .int .i64 n3] W = some (.bool true, w') ∧ Fr [] W w' := by
  have hml : maxLen = 9223372036854775807 := by decide
  have m0 := h0.2.2.2.1
  have m1 := h1.2.2.2.1
  obtain ⟨hU, zu, cu⟩ := lst_of_at h0
  obtain ⟨hV, zv, cv⟩ := lst_of_at h1
  replace zu := u8s zu
  replace zv := u8s zv
  replace h2 : 0 ≤ n2 ∧ n2 < 65536 := by
    have a : IntKind.u16.min = 0 := by decide
    have b : IntKind.u16.max = 65535 := by decide
    rw [a, b] at h2; omega
  replace h3 : -9223372036854775808 ≤ n3 ∧ n3 < 9223372036854775808 := by
    have a : IntKind.i64.min = -9223372036854775808 := by decide
    have b : IntKind.i64.max = 9223372036854775807 := by decide
    rw [a, b] at h3; omega
  obtain ⟨us, hus⟩ : ∃ ps : List (List Int), x0.2.map (·.2) = ps := ⟨_, rfl⟩
  obtain ⟨vs, hvs⟩ : ∃ ps : List (List Int), x1.2.map (·.2) = ps := ⟨_, rfl⟩
  rw [hus] at hU zu
  rw [hvs] at hV zv
  generalize x0.1 = u at hU m0 cu
  generalize x1.1 = v at hV m1 cv
  have lu := hU.len
  have lv := hV.len
  have h00 : ((0 : Int) != 0) = false := by decide
  have h000 : ((0 : Int) == 0) = true := by decide
  obtain ⟨w1, w2, D, wb, fb, tb, z, q, e1, e2, s2, F2, hD, hX, hq, _, _⟩ := start W
  obtain ⟨w3, e3, f3⟩ := awake11 (w := w2)
  have F3 : Fr [] W w3 := (Fr.mono (Fr.app F2 f3) (by have z0_ := Fr.size F2; have z1_ := Fr.size f3; intro y_ hy_ hl_; grind [blkOf]))
  have s3 := s2.fr f3 (by simp)
  have e4 := long12 (hU.fr F3 (by simp)) (by omega)
  have e5 := long12 (hV.fr F3 (by simp)) (by omega)
  have e2' : callF Try.prog 10 #[.pointer (some ⟨W.heap.size + 1, 0, none⟩), .string (⟨#[119]⟩ : ByteArray)] w1 = _ := e2
  obtain ⟨wx, ex, fx⟩ := awake11 (w := w3)
  have Fx : Fr [] W wx := (Fr.mono (Fr.app F3 fx) (by have z0_ := Fr.size F3; have z1_ := Fr.size fx; intro y_ hy_ hl_; grind [blkOf]))
  cases hlu : longP us with
  | true =>
    rw [hlu] at e4
    refine ⟨wx, g7_call ?_, Fx⟩
    unfold g7
    simp only [e1, e2', e3, h00, e4, ex, Option.bind_some, asP_pointer, asB_bool, asI_int, asS_string, asSl_slice, asM_map, asTup0, asTup1, asTup2, asTup3, asTup4, asTup5, getD0, getD1, getD2, getD3, getD4, Bool.not_true, Bool.not_false, Bool.false_eq_true, Bool.true_eq_false, ↓reduceIte, decide_true, decide_false, Option.isNone_some, Option.isNone_none, Option.isSome_some, Option.isSome_none, beq_self_eq_true, bne_self_eq_false, Bool.and_true, Bool.true_and, Bool.and_false, Bool.false_and, not_true_eq_false, not_false_eq_true]
  | false =>
  rw [hlu] at e4
  cases hlv : longP vs with
  | true =>
    rw [hlv] at e5
    refine ⟨wx, g7_call ?_, Fx⟩
    unfold g7
    simp only [e1, e2', e3, h00, e4, e5, ex, Option.bind_some, asP_pointer, asB_bool, asI_int, asS_string, asSl_slice, asM_map, asTup0, asTup1, asTup2, asTup3, asTup4, asTup5, getD0, getD1, getD2, getD3, getD4, Bool.not_true, Bool.not_false, Bool.false_eq_true, Bool.true_eq_false, ↓reduceIte, decide_true, decide_false, Option.isNone_some, Option.isNone_none, Option.isSome_some, Option.isSome_none, beq_self_eq_true, bne_self_eq_false, Bool.and_true, Bool.true_and, Bool.and_false, Bool.false_and, not_true_eq_false, not_false_eq_true]
  | false =>
  rw [hlv] at e5
  by_cases hbu : (u.2.1 : Int) > 100
  · refine ⟨wx, g7_call ?_, Fx⟩
    unfold g7
    simp only [e1, e2', e3, h00, e4, e5, hbu, ex, Option.bind_some, asP_pointer, asB_bool, asI_int, asS_string, asSl_slice, asM_map, asTup0, asTup1, asTup2, asTup3, asTup4, asTup5, getD0, getD1, getD2, getD3, getD4, Bool.not_true, Bool.not_false, Bool.false_eq_true, Bool.true_eq_false, ↓reduceIte, decide_true, decide_false, Option.isNone_some, Option.isNone_none, Option.isSome_some, Option.isSome_none, beq_self_eq_true, bne_self_eq_false, Bool.and_true, Bool.true_and, Bool.and_false, Bool.false_and, not_true_eq_false, not_false_eq_true]
  by_cases hbv : (v.2.1 : Int) > 100
  · refine ⟨wx, g7_call ?_, Fx⟩
    unfold g7
    simp only [e1, e2', e3, h00, e4, e5, hbu, hbv, ex, Option.bind_some, asP_pointer, asB_bool, asI_int, asS_string, asSl_slice, asM_map, asTup0, asTup1, asTup2, asTup3, asTup4, asTup5, getD0, getD1, getD2, getD3, getD4, Bool.not_true, Bool.not_false, Bool.false_eq_true, Bool.true_eq_false, ↓reduceIte, decide_true, decide_false, Option.isNone_some, Option.isNone_none, Option.isSome_some, Option.isSome_none, beq_self_eq_true, bne_self_eq_false, Bool.and_true, Bool.true_and, Bool.and_false, Bool.false_and, not_true_eq_false, not_false_eq_true]
  have su := longP_false hlu
  have sv := longP_false hlv
  have bus := encs_bound su
  have bvs := encs_bound sv
  have zz3 := F3.size
  -- the first
  obtain ⟨q6, w4, e6, L6, f6⟩ := copied25 (hU.fr F3 (by simp)) (fun y hy => by omega) (by omega) (fun p hp => by have := su p hp; omega)
  have L6' := lst_alive L6.lst'
  have lt3 := s3.wl.lt
  have s4 := s3.fr f6 (by simp)
  have F4 : Fr [] W w4 := (Fr.mono (Fr.app F3 f6) (by have z0_ := Fr.size F3; have z1_ := Fr.size f6; intro y_ hy_ hl_; grind [blkOf]))
  obtain ⟨w5, D5, e7, s5, i5⟩ := wrew s4 L6' (fun y hy he => by have := hy.1; have := lt3 tb (.inr (.inr rfl)); omega) (fun y hy => hy.2) zu (by omega) (by omega) (by decide)
  have hr1 : rewA [(nmW, [], 0)] (-1) false nmW us = (0, [(nmW, encs us, (encs us).length)], -1, false) := by
    rw [rew_one hlu (by simp) (by omega), if_neg (by unfold tookN; simp)]
    rfl
  rw [hr1] at e7 s5
  simp only [if_true] at s5
  obtain ⟨F5, hD5⟩ := i5.fresh F4 hD hX
  have e8 := count18 s5.wl
  have hcn : (((us.length : Nat) : Int) != (u.2.1 : Int)) = false := by rw [lu]; simp
  have e9 := total7 (u := u) (n2 := n2) (n3 := n3) (p2 := some ⟨W.heap.size + 1, 0, none⟩) (p5 := some ⟨wb, 0, none⟩) (hV.fr F5 (by simp)) (by omega) sv
  -- the fuse
  obtain ⟨L, hL⟩ : ∃ L, (encs vs).length = L := ⟨_, rfl⟩
  have hw1 : IntKind.i64.wrap ((L : Int) + 2) = (L : Int) + 2 := wrap_i64 (by omega) (by omega)
  have hw2 : IntKind.i64.wrap n2 = n2 := wrap_i64 (by omega) (by omega)
  obtain ⟨k, hk⟩ : ∃ k : Nat, Int.tmod n2 ((L : Int) + 2) = (k : Int) := by
    rw [Int.tmod_eq_emod_of_nonneg h2.1]
    exact ⟨(n2 % ((L : Int) + 2)).toNat, by have := Int.emod_nonneg n2 (show (L : Int) + 2 ≠ 0 by omega); omega⟩
  have hne : ¬ ((L : Int) + 2 = 0) := by omega
  have hkl : (k : Int) < (L : Int) + 2 := by rw [← hk, Int.tmod_eq_emod_of_nonneg h2.1]; exact Int.emod_lt_of_pos _ (by omega)
  obtain ⟨w6, e10, d6, c6⟩ := arm11 s5.dk (n := (k : Int)) (by omega)
  have ha : armA (-1) false (k : Int) = (k : Int) := by unfold armA; rw [if_neg (by decide), if_neg (by omega)]
  rw [ha] at d6
  have s6 := s5.step d6 c6
  obtain ⟨F6, hD6⟩ := chg_fresh c6 F5 hD5
  have zz6 := F6.size
  obtain ⟨q11, w7, e11, L11, f11⟩ := copied25 (hV.fr F6 (by simp)) (fun y hy => by omega) (by omega) (fun p hp => by have := sv p hp; omega)
  have L11' := lst_alive L11.lst'
  have lt6 := s6.wl.lt
  have s7 := s6.fr f11 (by simp)
  have F7 : Fr [] W w7 := (Fr.mono (Fr.app F6 f11) (by have z0_ := Fr.size F6; have z1_ := Fr.size f11; intro y_ hy_ hl_; grind [blkOf]))
  obtain ⟨w8, D8, e12, s8, i8⟩ := wrew s7 L11' (fun y hy he => by have := hy.1; have := lt6 tb (.inr (.inr rfl)); omega) (fun y hy => hy.2) zv (by omega) (by omega) (by decide)
  have hr2 := rew_one (d := encs us) (s := (encs us).length) (f := (k : Int)) hlv (by omega) (by omega)
  rw [hr2, hL] at e12 s8
  obtain ⟨F8, hD8⟩ := i8.fresh F7 hD6 hX
  have htk : tookN (k : Int) L = min k L := by unfold tookN; rw [if_pos (by omega)]; simp
  have ev : ∀ us : List (List Int), us = us → decide (us = us) = true := by simp
  rw [hL] at e9
  have fin : ∀ (A8 : List (ByteArray × FV)) (fu : Int) (de : Bool) (ys : List (List Int)), Dk w8 D8 (W.heap.size + 1) A8 fu de → kget A8 nmW = some (encs ys, (encs ys).length) → (∀ p ∈ ys, p.length ≤ 4096) → ∃ w9 w10 wb' q13, callF Try.prog 27 #[.pointer (some ⟨W.heap.size + 1, 0, none⟩), .int .i64 n3] w8 = some (.tuple #[], w9) ∧
      callF Try.prog 10 #[.pointer (some ⟨W.heap.size + 1, 0, none⟩), .string (⟨#[119]⟩ : ByteArray)] w9 = some (.tuple #[.pointer (some ⟨wb', 0, none⟩), .slice q13.1 q13.2.1 q13.2.2, .int .i64 0], w10) ∧ Fr [] W w10 ∧ ∃ B, Lst .u8 w10 B q13 ys := by
    intro A8 fu de ys d8 hg hys
    obtain ⟨w9, e13, d9, c9⟩ := crash14 d8 h3
    obtain ⟨F9, hD9⟩ := chg_fresh c9 F8 hD8
    obtain ⟨w10, D10, d10, c10, g10⟩ := open10 d9 nmW
    have hg' : kget (crashA n3 A8) nmW = some (encs ys, (encs ys).length) := by rw [kget_crash, hg]; simp [leftN_full]
    have eo : openA (crashA n3 A8) (-1) false nmW = (0, ys, crashA n3 A8, -1, false) := by rw [open_has hg', scan_all hys]; simp
    rw [eo] at d10 g10
    rcases g10 with ⟨g10, _⟩ | ⟨_, wb', _, _, z10, q13, e14, l10, X10, Z10, K10, L10⟩
    · exact absurd rfl g10
    obtain ⟨F10, hD10⟩ := chg_fresh c10 F9 hD9
    exact ⟨w9, w10, wb', q13, e13, e14, F10, _, L10.lst'⟩
  have pu : ∀ p ∈ us, p.length < 9223372036854775807 := fun p hp => by have := su p hp; omega
  have pv : ∀ p ∈ vs, p.length < 9223372036854775807 := fun p hp => by have := sv p hp; omega
  by_cases hlt : k < L
  · have hc : tookN (k : Int) L < L := by rw [htk]; omega
    rw [if_pos hc] at e12 s8
    obtain ⟨w9, w10, wb', q13, e13, e14, F10, B, L10⟩ := fin _ _ _ us s8.dk (by simp [kget_cons]) su
    obtain ⟨w11, e15, f15⟩ := samelist19 L10 (hU.fr F10 (by simp)) (by omega) pu
    have hge : decide ((k : Int) ≥ (L : Int)) = false := by simp; omega
    have h90 : ((9 : Int) == 0) = false := by decide
    have h91 : ((9 : Int) != 0) = true := by decide
    have h99 : ((9 : Int) != 9) = false := by decide
    have hff : (!((false : Bool) == false)) = false := by decide
    have hdt : decide (us = us) = true := by simp
    refine ⟨w11, g7_call ?_, (Fr.mono (Fr.app F10 f15) (by have z0_ := Fr.size F10; have z1_ := Fr.size f15; intro y_ hy_ hl_; grind [blkOf]))⟩
    unfold g7
    simp only [e1, e2', e3, h00, e4, e5, hbu, hbv, e6, e7, e8, hcn, g7_l38_x0_of e9, Option.bind_some, asP_pointer, asB_bool, asI_int, asS_string, asSl_slice, asM_map, asTup0, asTup1, asTup2, asTup3, asTup4, asTup5, getD0, getD1, getD2, getD3, getD4, Bool.not_true, Bool.not_false, Bool.false_eq_true, Bool.true_eq_false, ↓reduceIte, decide_true, decide_false, Option.isNone_some, Option.isNone_none, Option.isSome_some, Option.isSome_none, beq_self_eq_true, bne_self_eq_false, Bool.and_true, Bool.true_and, Bool.and_false, Bool.false_and, not_true_eq_false, not_false_eq_true]
    unfold g7_l38_x0
    simp only [hw1, hw2, hk, hne, e10, e11, e12, h90, hge, hff, h91, h99, e13, e14, h00, e15, hdt, Option.bind_some, asP_pointer, asB_bool, asI_int, asS_string, asSl_slice, asM_map, asTup0, asTup1, asTup2, asTup3, asTup4, asTup5, getD0, getD1, getD2, getD3, getD4, Bool.not_true, Bool.not_false, Bool.false_eq_true, Bool.true_eq_false, ↓reduceIte, decide_true, decide_false, Option.isNone_some, Option.isNone_none, Option.isSome_some, Option.isSome_none, beq_self_eq_true, bne_self_eq_false, Bool.and_true, Bool.true_and, Bool.and_false, Bool.false_and, not_true_eq_false, not_false_eq_true]
  · have hc : ¬ tookN (k : Int) L < L := by rw [htk]; omega
    rw [if_neg hc] at e12 s8
    obtain ⟨w9, w10, wb', q13, e13, e14, F10, B, L10⟩ := fin _ _ _ vs s8.dk (by simp [kget_cons, hL]) sv
    obtain ⟨w11, e15, f15⟩ := samelist19 L10 (hV.fr F10 (by simp)) (by omega) pv
    have hge : decide ((k : Int) ≥ (L : Int)) = true := by simp; omega
    have hff : (!((true : Bool) == true)) = false := by decide
    have hdt : decide (vs = vs) = true := by simp
    refine ⟨w11, g7_call ?_, (Fr.mono (Fr.app F10 f15) (by have z0_ := Fr.size F10; have z1_ := Fr.size f15; intro y_ hy_ hl_; grind [blkOf]))⟩
    unfold g7
    simp only [e1, e2', e3, h00, e4, e5, hbu, hbv, e6, e7, e8, hcn, g7_l38_x0_of e9, Option.bind_some, asP_pointer, asB_bool, asI_int, asS_string, asSl_slice, asM_map, asTup0, asTup1, asTup2, asTup3, asTup4, asTup5, getD0, getD1, getD2, getD3, getD4, Bool.not_true, Bool.not_false, Bool.false_eq_true, Bool.true_eq_false, ↓reduceIte, decide_true, decide_false, Option.isNone_some, Option.isNone_none, Option.isSome_some, Option.isSome_none, beq_self_eq_true, bne_self_eq_false, Bool.and_true, Bool.true_and, Bool.and_false, Bool.false_and, not_true_eq_false, not_false_eq_true]
    unfold g7_l38_x0
    simp only [hw1, hw2, hk, hne, e10, e11, e12, h000, hge, hff, h00, e13, e14, e15, hdt, Option.bind_some, asP_pointer, asB_bool, asI_int, asS_string, asSl_slice, asM_map, asTup0, asTup1, asTup2, asTup3, asTup4, asTup5, getD0, getD1, getD2, getD3, getD4, Bool.not_true, Bool.not_false, Bool.false_eq_true, Bool.true_eq_false, ↓reduceIte, decide_true, decide_false, Option.isNone_some, Option.isNone_none, Option.isSome_some, Option.isSome_none, beq_self_eq_true, bne_self_eq_false, Bool.and_true, Bool.true_and, Bool.and_false, Bool.false_and, not_true_eq_false, not_false_eq_true]
end Go.Proofs.Ytnflklkjjjlpaaa
