/-
  WalPlays: lemmas on what Go functions of this seat come to (for whatever arguments, as each says). No condition but those that stand in each lemma.
-/
import Derived.Test.YtnflklkjjjlpaaaWalI
namespace Go.Proofs.Ytnflklkjjjlpaaa
open Go Go.Ev Go.Crc
set_option maxRecDepth 100000
set_option linter.unusedVariables false
set_option linter.unusedSimpArgs false
set_option maxHeartbeats 1000000

abbrev OpT : Ty := .cons (.int .i64) (.cons (.slice (.int .u8)) (.cons (.slice (.slice (.int .u8))) (.cons (.int .i64) .nil)))

/-- between two rounds -/
def RInv (W : World) (k : Nat) (s : Bool × Option Addr × (Option Addr × Nat × Nat) × (Option Addr × Nat × Nat) × Int × Bool × Int) (x : World) : Prop :=
  ∃ D A fuse dead all least count wb fb tb q wh db, s = (false, some ⟨wb, 0, none⟩, q, wh, ((least : Nat) : Int), db, (k : Int)) ∧ PW W x D A fuse dead all least count wb fb tb q

theorem sum_mem_le {α : Type} (f : α → Nat) : ∀ {l : List α} {x : α}, x ∈ l → f x ≤ (l.map f).sum
  | a :: l, x, h => by
    rcases List.mem_cons.mp h with h | h
    · subst h; simp
    · have := sum_mem_le f h; simp only [List.map_cons, List.sum_cons]; omega

theorem i64_bounds {n : Int} (h : IntKind.i64.min ≤ n ∧ n ≤ IntKind.i64.max) : -9223372036854775808 ≤ n ∧ n < 9223372036854775808 := by
  have a : IntKind.i64.min = -9223372036854775808 := by decide
  have b : IntKind.i64.max = 9223372036854775807 := by decide
  rw [a, b] at h; omega

theorem bulk_lists' (us : List (List Int)) : us.length ≤ (us.map fun p => p.length + 1).sum := by
  induction us with
  | nil => simp
  | cons p l ih => simp only [List.map_cons, List.sum_cons, List.length_cons]; omega

theorem encs_bulk (ps : List (List Int)) : (encs ps).length ≤ 8 * (ps.map fun p => p.length + 1).sum := by
  induction ps with
  | nil => simp [encs]
  | cons p l ih => rw [encs_cons, List.length_append, enc_length]; simp only [List.map_cons, List.sum_cons]; omega

theorem plays_round {W : World} {x0 : (Ty.slice OpT).Val} (h0 : (Ty.slice OpT).At W [.slice x0.1.1 x0.1.2.1 x0.1.2.2] x0) (hb : (Ty.slice OpT).bulk x0 ≤ 1048576)
    (k : Nat) (s : Bool × Option Addr × (Option Addr × Nat × Nat) × (Option Addr × Nat × Nat) × Int × Bool × Int) (x : World) (hk : k < x0.2.length) (hi : RInv W k s x) :
    ∃ s' x', g8_l12_b x0.1 (some ⟨W.heap.size + 1, 0, none⟩) s x = some (.normal, s', x') ∧ RInv W (k + 1) s' x' := by
  obtain ⟨D, A, fuse, dead, all, least, count, wb, fb, tb, q, wh, db, rfl, hP⟩ := hi
  have hold : Old W x := (Old.refl W).fr hP.fr (by simp)
  obtain ⟨a, cs, e1, g1, g2, g3⟩ := slice_get (at_old hold _ _ _ h0) hk
  obtain ⟨_, _, _, _, _, g3W⟩ := slice_get h0 hk
  have hll := h0.2.1
  have hel : Ty.bulk OpT x0.2[k] ≤ 1048576 := by
    have h1 : (Ty.slice OpT).bulk x0 = (x0.2.map (Ty.bulk OpT)).sum + 1 := rfl
    have h2 := sum_mem_le (Ty.bulk OpT) (List.getElem_mem hk)
    omega
  generalize x0.2[k] = el at g3 g3W hel
  obtain ⟨c1, d1, rfl, _, ⟨rfl, _⟩, c2, d2, rfl, _, hs2, c3, d3, rfl, _, hs3, c4, d4, rfl, _, ⟨rfl, hn4⟩, rfl⟩ := g3
  obtain ⟨_, _, _, _, _, _, _, _, _, hw2, _, _, _, _, hw3, _⟩ := g3W
  obtain ⟨kd, ⟨q18, p⟩, ⟨q19, pps⟩, n, _⟩ := el
  have hc2 := hs2.1
  have hc3 := hs3.1
  have hd2 := hw2.1
  have hd3 := hw3.1
  subst hc2 hc3 hd2 hd3
  obtain ⟨hp, hpz, hplt⟩ := slI_of_at hw2
  obtain ⟨hL, hLz, hLc⟩ := lst_of_at hw3
  simp only at hp hpz hplt hL hLz hLc hn4 g2 ⊢
  replace hpz : Zs p := fun z hz => u8_range (hpz z hz)
  replace hLz := u8s hLz
  have hbp : p.length ≤ 1048576 ∧ ((pps.map (·.2)).map fun p => p.length + 1).sum ≤ 1048576 := by
    have b1 : Ty.bulk OpT (kd, (q18, p), (q19, pps), n, ()) = 1 + ((Ty.slice (.int .u8)).bulk (q18, p) + ((Ty.slice (.slice (.int .u8))).bulk (q19, pps) + (1 + 0))) := rfl
    have b2 : (Ty.slice (.int .u8)).bulk (q18, p) = p.length + 1 := bulk_int (k := .u8) (q18, p)
    have b3 : (Ty.slice (.slice (.int .u8))).bulk (q19, pps) = ((pps.map (·.2)).map fun p => p.length + 1).sum + 1 := bulk_list (k := .u8) (q19, pps)
    have hel' : Ty.bulk OpT (kd, (q18, p), (q19, pps), n, ()) ≤ 1048576 := hel
    omega
  simp only [List.append_nil, List.cons_append, List.nil_append] at g2
  have e2 := g2.ldN (n := 4) rfl
  have hc : (k : Int) < (x0.1.2.1 : Int) := by omega
  have hk9 : k < 9223372036854775806 := by
    have h1 : (Ty.slice OpT).bulk x0 = (x0.2.map (Ty.bulk OpT)).sum + 1 := rfl
    have h2 : ∀ l : List OpT.Val, l.length ≤ (l.map (Ty.bulk OpT)).sum := by
      intro l
      induction l with
      | nil => simp
      | cons a l ih =>
        have : 1 ≤ Ty.bulk OpT a := by
          obtain ⟨a1, a2, a3, a4, a5⟩ := a
          show 1 ≤ 1 + _
          omega
        simp only [List.map_cons, List.sum_cons, List.length_cons]; omega
    have h3 := h2 x0.2
    omega
  replace hn4 := i64_bounds hn4
  have esz : Ty.size OpT = 4 := rfl
  rw [esz] at e1
  have e3 : stL (x.alloc (.cells #[.int .i64 0, .slice none 0 0, .slice none 0 0, .int .i64 0] 55)) ⟨x.heap.size, 0, none⟩ [.int .i64 kd, .slice q18.1 q18.2.1 q18.2.2, .slice q19.1 q19.2.1 q19.2.2, .int .i64 n] 0 = some (x.alloc (.cells #[.int .i64 kd, .slice q18.1 q18.2.1 q18.2.2, .slice q19.1 q19.2.1 q19.2.2, .int .i64 n] 55)) := stL_new rfl (by simp)
  have hbk := Blk.new x [.int .i64 kd, .slice q18.1 q18.2.1 q18.2.2, .slice q19.1 q19.2.1 q19.2.2, .int .i64 n] 55
  change Blk (x.alloc (.cells #[.int .i64 kd, .slice q18.1 q18.2.1 q18.2.2, .slice q19.1 q19.2.1 q19.2.2, .int .i64 n] 55)) _ _ _ at hbk
  have fv : Fr [] x (x.alloc (.cells #[.int .i64 kd, .slice q18.1 q18.2.1 q18.2.2, .slice q19.1 q19.2.1 q19.2.2, .int .i64 n] 55)) := Fr.alloc _
  have zv : (x.alloc (.cells #[.int .i64 kd, .slice q18.1 q18.2.1 q18.2.2, .slice q19.1 q19.2.1 q19.2.2, .int .i64 n] 55)).heap.size = x.heap.size + 1 := Array.size_push _
  have zx := hP.fr.size
  have hltD := hP.ws.dk.lt
  have hltX := hP.ws.wl.lt
  have hPv := hP.fr0 fv
  have dv0 := hbk.cell 0
  change World.cell? (x.alloc (.cells #[.int .i64 kd, .slice q18.1 q18.2.1 q18.2.2, .slice q19.1 q19.2.1 q19.2.2, .int .i64 n] 55)) _ = some (.int .i64 kd) at dv0
  unfold g8_l12_b
  simp only [hc, e1, e2, e3, dv0, Option.bind_some, asP_pointer, asB_bool, asI_int, asS_string, asSl_slice, asM_map, asTup0, asTup1, asTup2, asTup3, asTup4, asTup5, getD0, getD1, getD2, getD3, getD4, Bool.not_true, Bool.not_false, Bool.false_eq_true, Bool.true_eq_false, ↓reduceIte, decide_true, decide_false, Option.isNone_some, Option.isNone_none, Option.isSome_some, Option.isSome_none, beq_self_eq_true, bne_self_eq_false, Bool.and_true, Bool.true_and, Bool.and_false, Bool.false_and, not_true_eq_false, not_false_eq_true]
  generalize x.alloc (.cells #[.int .i64 kd, .slice q18.1 q18.2.1 q18.2.2, .slice q19.1 q19.2.1 q19.2.2, .int .i64 n] 55) = v at *
  have hnB : ∀ y, D y ∨ Xw wb fb tb y → y ≠ x.heap.size := fun y hy e => by
    rcases hy with hy | hy
    · have := hltD y hy; omega
    · have := hltX y hy; omega
  have keepB : ∀ {w' : World} {S : List Nat}, Fr S v w' → (∀ y ∈ S, D y ∨ Xw wb fb tb y) → Blk w' x.heap.size [.int .i64 kd, .slice q18.1 q18.2.1 q18.2.2, .slice q19.1 q19.2.1 q19.2.2, .int .i64 n] 55 :=
    fun f hS => hbk.fr f (fun hm => hnB _ (hS _ hm) rfl)
  have ct : ∀ {w' : World}, Blk w' x.heap.size [.int .i64 kd, .slice q18.1 q18.2.1 q18.2.2, .slice q19.1 q19.2.1 q19.2.2, .int .i64 n] 55 → w'.cell? ⟨x.heap.size, 1, none⟩ = some (.slice q18.1 q18.2.1 q18.2.2) ∧ w'.cell? ⟨x.heap.size, 2, none⟩ = some (.slice q19.1 q19.2.1 q19.2.2) ∧ w'.cell? ⟨x.heap.size, 3, none⟩ = some (.int .i64 n) :=
    fun h => ⟨h.cell 1, h.cell 2, h.cell 3⟩
  have hpl := hp.1
  have hLl := hL.len
  have hml : maxLen = 9223372036854775807 := by decide
  by_cases k0 : kd = 0
  · subst k0
    have h00 : ((0 : Int) == 0) = true := by decide
    have hn00 : ((0 : Int) != 0) = false := by decide
    have fa : Fr [] v (v.alloc (.cells #[] 5)) := Fr.alloc _
    have ca := (ct (hbk.fr fa (by simp))).1
    have hpv : Sl8 v q18 p := hp.fr2 hPv.fr (by simp)
    obtain ⟨q3, w1, e4, o1, f1, n1, l1⟩ := app_empty t28 hpv.slC oc8 (by omega) (by omega) 31 #[false, false]
    have hP1 := hPv.fr0 f1
    have hltDv := hPv.ws.dk.lt
    have hltXv := hPv.ws.wl.lt
    have z1 := f1.size
    have zzv := hPv.fr.size
    obtain ⟨w2, D2, e5, s2, i2⟩ := wapp (count := count) hP1.ws o1.slI hpz (fun _ hm => by have := n1 tb hm; have := hltXv tb (.inr (.inr rfl)); omega) (by have := hP1.law.cb; omega)
    have happ := hP1.law.app (fuse := fuse) hP1.ws.dk.used hpz
    obtain ⟨r, hr⟩ : ∃ r, wappA A fuse dead nmW p = r := ⟨_, rfl⟩
    rw [hr] at happ e5 s2
    simp only at happ
    obtain ⟨F2, hD2, R, lo, hR⟩ := hP1.dls i2
    have new2 := i2.new
    have ho3 : ∀ y ∈ blkOf q3, W.heap.size ≤ y ∧ ¬ D2 y ∧ ¬ Xw wb fb tb y := by
      intro y hy
      have g1 := n1 y hy
      have g2 := own_lt o1 y hy
      refine ⟨by omega, fun hd => ?_, fun hx => by have := hltXv y hx; omega⟩
      rcases new2 y hd with hh | hh
      · have := hltDv y hh; omega
      · omega
    have hb2 : Blk w2 x.heap.size [.int .i64 0, .slice q18.1 q18.2.1 q18.2.2, .slice q19.1 q19.2.1 q19.2.2, .int .i64 n] 55 := by
      obtain ⟨S, f, hS⟩ := i2.fr
      exact (hbk.fr f1 (by simp)).fr f (fun hm => hnB _ (hS _ hm) rfl)
    have c2 := (ct hb2).1
    have o2 : Own w2 5 1 q3 (p.map (Value.int .u8)) := by
      obtain ⟨S, f, hS⟩ := i2.fr
      refine o1.fr f (fun y hy hm => ?_)
      have g1 := n1 y hy
      rcases hS y hm with hh | hh
      · have := hltDv y hh; omega
      · have := hltXv y hh; omega
    obtain ⟨w3, e6, f3⟩ := same14 o2.slI (hp.fr2 F2 (by simp)) (by omega)
    have hdp : decide (p = p) = true := by simp
    have s13 : (false, some (⟨wb, 0, none⟩ : Addr), q, wh, (least : Int), db, (k : Int)).1 = false ∧ (false, some (⟨wb, 0, none⟩ : Addr), q, wh, (least : Int), db, (k : Int)).2.2.2.2.2.2 = (k : Int) := ⟨rfl, rfl⟩
    have h20 : ((2 : Int) == 0) = false := by decide
    have h2n : ((2 : Int) != 0) = true := by decide
    have h29 : ((2 : Int) == 9) = false := by decide
    have h22 : ((2 : Int) == 2) = true := by decide
    have h2nn : ((2 : Int) != 2) = false := by decide
    have h32 : ((3 : Int) == 2) = false := by decide
    have h3n : ((3 : Int) != 0) = true := by decide
    have h3nn : ((3 : Int) != 2) = true := by decide
    have h39 : ((3 : Int) != 9) = true := by decide
    have h33 : ((3 : Int) != 3) = false := by decide
    have h3e9 : ((3 : Int) == 9) = false := by decide
    have h3e0 : ((3 : Int) == 0) = false := by decide
    have h92 : ((9 : Int) == 2) = false := by decide
    have h9n : ((9 : Int) != 0) = true := by decide
    have h9nn : ((9 : Int) != 2) = true := by decide
    have h99 : ((9 : Int) != 9) = false := by decide
    have h9e9 : ((9 : Int) == 9) = true := by decide
    have h9e0 : ((9 : Int) == 0) = false := by decide
    have h02 : ((0 : Int) == 2) = false := by decide
    have h0e9 : ((0 : Int) == 9) = false := by decide
    have htt : (!((true : Bool) == true)) = false := by decide
    have hff : (!((false : Bool) == false)) = false := by decide
    rcases happ with ⟨k1, hbig, hd, hl⟩ | ⟨hsm, ⟨k1, hd, hal, hl⟩ | ⟨k1, hl⟩ | ⟨k1, hd, hl⟩⟩
    · have hg : (q18.2.1 : Int) > 4096 := by omega
      rw [k1] at e5 s2
      rw [if_neg (by decide)] at s2
      have hP3 := (hP1.did i2 s2 hl).fr0 f3
      have e9 := tail22 hP3 (s13 := (false, some ⟨wb, 0, none⟩, q, wh, (least : Int), db, (k : Int))) (k := k) ⟨rfl, rfl⟩ hk9 wh _ rfl db
      refine ⟨_, w3, ?_, D2, _, _, _, all, least, count, wb, fb, tb, q, wh, db, rfl, hP3⟩
      simp only [h00, addr_add, Nat.zero_add, ca, e4, e5, c2, hg, h22, htt, e6, hdp, h2n, h2nn, h29, h20, e9, Option.bind_some, asP_pointer, asB_bool, asI_int, asS_string, asSl_slice, asM_map, asTup0, asTup1, asTup2, asTup3, asTup4, asTup5, getD0, getD1, getD2, getD3, getD4, Bool.not_true, Bool.not_false, Bool.false_eq_true, Bool.true_eq_false, ↓reduceIte, decide_true, decide_false, Option.isNone_some, Option.isNone_none, Option.isSome_some, Option.isSome_none, beq_self_eq_true, bne_self_eq_false, Bool.and_true, Bool.true_and, Bool.and_false, Bool.false_and, not_true_eq_false, not_false_eq_true]
    · have hg : ¬ (q18.2.1 : Int) > 4096 := by omega
      rw [k1] at e5 s2
      rw [if_pos rfl, hd] at s2
      have s3 := s2.fr f3 (by simp)
      have lo3 := lo.fr (stays_o _ _ _) f3 (by simp)
      have z3 := f3.size
      have F3 : Fr [] W w3 := (Fr.mono (Fr.app F2 f3) (by have z0_ := Fr.size F2; have z1_ := Fr.size f3; intro y_ hy_ hl_; grind [blkOf]))
      obtain ⟨q', w4, e7, hP4⟩ := push_ls (W := W) (least := least) s3 hl hD2 hP.hX F3 lo3 (fun y hy => ⟨(hR y hy).1, by have := (hR y hy).2.1; omega, (hR y hy).2.2⟩) (o2.fr f3 (by simp)) ho3 hal
      have e9 := tail22 hP4 (s13 := (false, some ⟨wb, 0, none⟩, q, wh, (least : Int), db, (k : Int))) (k := k) ⟨rfl, rfl⟩ hk9 wh _ rfl db
      refine ⟨_, w4, ?_, D2, _, _, _, _, least, _, wb, fb, tb, q', wh, db, rfl, hP4⟩
      simp only [h00, addr_add, Nat.zero_add, ca, e4, e5, c2, hg, h02, hff, e6, hdp, hn00, h0e9, e7, e9, Option.bind_some, asP_pointer, asB_bool, asI_int, asS_string, asSl_slice, asM_map, asTup0, asTup1, asTup2, asTup3, asTup4, asTup5, getD0, getD1, getD2, getD3, getD4, Bool.not_true, Bool.not_false, Bool.false_eq_true, Bool.true_eq_false, ↓reduceIte, decide_true, decide_false, Option.isNone_some, Option.isNone_none, Option.isSome_some, Option.isSome_none, beq_self_eq_true, bne_self_eq_false, Bool.and_true, Bool.true_and, Bool.and_false, Bool.false_and, not_true_eq_false, not_false_eq_true]
    · have hg : ¬ (q18.2.1 : Int) > 4096 := by omega
      rw [k1] at e5 s2
      rw [if_neg (by decide)] at s2
      have hP3 := (hP1.did i2 s2 hl).fr0 f3
      have e9 := tail22 hP3 (s13 := (false, some ⟨wb, 0, none⟩, q, wh, (least : Int), db, (k : Int))) (k := k) ⟨rfl, rfl⟩ hk9 wh _ rfl db
      refine ⟨_, w3, ?_, D2, _, _, _, all, least, count, wb, fb, tb, q, wh, db, rfl, hP3⟩
      simp only [h00, addr_add, Nat.zero_add, ca, e4, e5, c2, hg, h32, hff, e6, hdp, h3n, h3nn, h39, h33, h3e9, h3e0, e9, Option.bind_some, asP_pointer, asB_bool, asI_int, asS_string, asSl_slice, asM_map, asTup0, asTup1, asTup2, asTup3, asTup4, asTup5, getD0, getD1, getD2, getD3, getD4, Bool.not_true, Bool.not_false, Bool.false_eq_true, Bool.true_eq_false, ↓reduceIte, decide_true, decide_false, Option.isNone_some, Option.isNone_none, Option.isSome_some, Option.isSome_none, beq_self_eq_true, bne_self_eq_false, Bool.and_true, Bool.true_and, Bool.and_false, Bool.false_and, not_true_eq_false, not_false_eq_true]
    · have hg : ¬ (q18.2.1 : Int) > 4096 := by omega
      rw [k1] at e5 s2
      rw [if_neg (by decide), hd] at s2
      have hP3 := (hP1.did i2 s2 hl).fr0 f3
      have e8 := dead12 hP3.ws.dk
      have e9 := tail22 hP3 (s13 := (false, some ⟨wb, 0, none⟩, q, wh, (least : Int), db, (k : Int))) (k := k) ⟨rfl, rfl⟩ hk9 wh _ rfl db
      refine ⟨_, w3, ?_, D2, _, _, _, all, least, count, wb, fb, tb, q, wh, db, rfl, hP3⟩
      simp only [h00, addr_add, Nat.zero_add, ca, e4, e5, c2, hg, h92, hff, e6, hdp, h9n, h9nn, h99, h9e9, h9e0, e8, e9, Option.bind_some, asP_pointer, asB_bool, asI_int, asS_string, asSl_slice, asM_map, asTup0, asTup1, asTup2, asTup3, asTup4, asTup5, getD0, getD1, getD2, getD3, getD4, Bool.not_true, Bool.not_false, Bool.false_eq_true, Bool.true_eq_false, ↓reduceIte, decide_true, decide_false, Option.isNone_some, Option.isNone_none, Option.isSome_some, Option.isSome_none, beq_self_eq_true, bne_self_eq_false, Bool.and_true, Bool.true_and, Bool.and_false, Bool.false_and, not_true_eq_false, not_false_eq_true]
  have k0' : (kd == 0) = false := by simpa using k0
  by_cases k1 : kd = 1
  · subst k1
    have h11 : ((1 : Int) == 1) = true := by decide
    obtain ⟨w1, e4, s1, i1⟩ := wsync hPv.ws
    rcases hPv.law.sync with ⟨hd, hs⟩ | ⟨hd, hs, hl⟩
    · subst hd
      rw [hs] at e4 s1
      have hP1 := hPv.did i1 s1 hPv.law
      have e5 := dead12 hP1.ws.dk
      have h90 : ((9 : Int) == 0) = false := by decide
      have e6 := tail22 hP1 (s13 := (false, some ⟨wb, 0, none⟩, q, wh, (least : Int), db, (k : Int))) (k := k) ⟨rfl, rfl⟩ hk9 wh _ rfl db
      refine ⟨_, w1, ?_, D, A, fuse, true, all, least, count, wb, fb, tb, q, wh, db, rfl, hP1⟩
      simp only [k0', h11, e4, h90, e5, e6, Option.bind_some, asP_pointer, asB_bool, asI_int, asS_string, asSl_slice, asM_map, asTup0, asTup1, asTup2, asTup3, asTup4, asTup5, getD0, getD1, getD2, getD3, getD4, Bool.not_true, Bool.not_false, Bool.false_eq_true, Bool.true_eq_false, ↓reduceIte, decide_true, decide_false, Option.isNone_some, Option.isNone_none, Option.isSome_some, Option.isSome_none, beq_self_eq_true, bne_self_eq_false, Bool.and_true, Bool.true_and, Bool.and_false, Bool.false_and, not_true_eq_false, not_false_eq_true]
    · subst hd
      have hP1 := hPv.did i1 s1 hl
      rw [hs] at e4
      have h00 : ((0 : Int) == 0) = true := by decide
      have hql : (q.2.1 : Int) = ((all.length : Nat) : Int) := by obtain ⟨R, lo, _⟩ := hP.ls; have := lo.len; omega
      have e6 := tail22 hP1 (s13 := (false, some ⟨wb, 0, none⟩, q, wh, (least : Int), db, (k : Int))) (k := k) ⟨rfl, rfl⟩ hk9 wh _ hql db
      refine ⟨_, w1, ?_, D, _, fuse, false, all, all.length, count, wb, fb, tb, q, wh, db, rfl, hP1⟩
      simp only [k0', h11, e4, h00, e6, Option.bind_some, asP_pointer, asB_bool, asI_int, asS_string, asSl_slice, asM_map, asTup0, asTup1, asTup2, asTup3, asTup4, asTup5, getD0, getD1, getD2, getD3, getD4, Bool.not_true, Bool.not_false, Bool.false_eq_true, Bool.true_eq_false, ↓reduceIte, decide_true, decide_false, Option.isNone_some, Option.isNone_none, Option.isSome_some, Option.isSome_none, beq_self_eq_true, bne_self_eq_false, Bool.and_true, Bool.true_and, Bool.and_false, Bool.false_and, not_true_eq_false, not_false_eq_true]
  have k1' : (kd == 1) = false := by simpa using k1
  by_cases k2 : kd = 2
  · subst k2
    have h22 : ((2 : Int) == 2) = true := by decide
    have cc := (ct hbk).2.1
    have e4 := dead12 hPv.ws.dk
    obtain ⟨ps, hps⟩ : ∃ ps : List (List Int), pps.map (·.2) = ps := ⟨_, rfl⟩
    rw [hps] at hL hLz hbp hLl
    replace hbp : (ps.map fun p : List Int => p.length + 1).sum ≤ 1048576 := hbp.2
    replace hLl : ps.length = q19.2.1 := hLl
    have hlp : ∀ p' ∈ ps, p'.length ≤ 1073741824 := fun p' hp' => by
      have := sum_mem_le (fun p : List Int => p.length + 1) hp'; omega
    have hbl := bulk_lists' ps
    have heb := encs_bulk ps
    have hold' : ∀ {w' : World}, Fr [] W w' → ∀ y, y < W.heap.size → y < w'.heap.size := fun f y hy => by have := f.size; omega
    obtain ⟨q5, w1, e5, L1, f1⟩ := copied25 (hL.fr hPv.fr (by simp)) (hold' hPv.fr) (by omega) hlp
    have hP1 := hPv.fr0 f1
    have L1a := lst_alive L1.lst'
    have hltXv := hPv.ws.wl.lt
    obtain ⟨w2, D2, e6, s2, i2⟩ := wrew hP1.ws L1a (fun y hy he => by have := hy.1; have := hltXv tb (.inr (.inr rfl)); omega) (fun y hy => hy.2) hLz (by omega) (by omega) (by decide)
    have hrew := hP1.law.rew (fuse := fuse) hP1.ws.dk.one hLz s2.dk.used
    obtain ⟨r, hr⟩ : ∃ r, rewA A fuse dead nmW ps = r := ⟨_, rfl⟩
    rw [hr] at hrew e6 s2
    simp only at hrew
    have F2 := (hP1.dls i2).1
    have hb2 : Blk w2 x.heap.size [.int .i64 2, .slice q18.1 q18.2.1 q18.2.2, .slice q19.1 q19.2.1 q19.2.2, .int .i64 n] 55 := by
      obtain ⟨S, f, hS⟩ := i2.fr
      exact (hbk.fr f1 (by simp)).fr f (fun hm => hnB _ (hS _ hm) rfl)
    have c2 := (ct hb2).2.1
    rcases hrew with ⟨k1, hd, hd2, hl⟩ | ⟨k1, hlo, hd2, hl⟩ | ⟨k1, k2, k3, hl⟩
    · -- it went through
      rw [if_pos k1] at s2
      have h00 : ((0 : Int) == 0) = true := by decide
      have fd := Fr.drew [] w2
      have F2d : Fr [] W w2.drew := (Fr.mono (Fr.app F2 fd) (by have z0_ := Fr.size F2; have z1_ := Fr.size fd; intro y_ hy_ hl_; grind [blkOf]))
      have cd : w2.drew.cell? ⟨x.heap.size, 2, none⟩ = some (.slice q19.1 q19.2.1 q19.2.2) := (ct (hb2.fr fd (by simp))).2.1
      obtain ⟨q7, w3, e7, L3, f3⟩ := copied25 (hL.fr F2d (by simp)) (hold' F2d) (by omega) hlp
      have hb3 := (hb2.fr fd (by simp)).fr f3 (by simp)
      have c3 := (ct hb3).2.1
      have s3 := (s2.fr fd (by simp)).fr f3 (by simp)
      obtain ⟨Fx, hD2, _⟩ := hP1.dls i2
      have lt2D := (s2.fr fd (by simp)).dk.lt
      have lt2X := (s2.fr fd (by simp)).wl.lt
      have z2 := F2d.size
      have F3 : Fr [] W w3 := (Fr.mono (Fr.app F2d f3) (by have z0_ := Fr.size F2d; have z1_ := Fr.size f3; intro y_ hy_ hl_; grind [blkOf]))
      have hP3 : PW W w3 D2 r.2.1 r.2.2.1 r.2.2.2 ps ps.length ps.length wb fb tb q7 := ⟨s3, hl, hD2, hP1.hX, F3, _, lso_alive L3, fun y hy => ⟨by have := hy.1; omega, hy.2, fun hh => by have := hy.1; have := lt2D y hh; omega, fun hh => by have := hy.1; have := lt2X y hh; omega⟩⟩
      have e9 := tail22 hP3 (s13 := (false, some ⟨wb, 0, none⟩, q, wh, (least : Int), db, (k : Int))) (k := k) ⟨rfl, rfl⟩ hk9 wh (q19.2.1 : Int) (by omega) db
      rw [k1] at e6
      refine ⟨_, w3, ?_, D2, _, _, _, ps, ps.length, ps.length, wb, fb, tb, q7, wh, db, rfl, hP3⟩
      simp only [k0', k1', h22, addr_add, Nat.zero_add, cc, e4, e5, e6, h00, cd, Option.bind_some, asP_pointer, asB_bool, asI_int, asS_string, asSl_slice, asM_map, asTup0, asTup1, asTup2, asTup3, asTup4, asTup5, getD0, getD1, getD2, getD3, getD4, Bool.not_true, Bool.not_false, Bool.false_eq_true, Bool.true_eq_false, ↓reduceIte, decide_true, decide_false, Option.isNone_some, Option.isNone_none, Option.isSome_some, Option.isSome_none, beq_self_eq_true, bne_self_eq_false, Bool.and_true, Bool.true_and, Bool.and_false, Bool.false_and, not_true_eq_false, not_false_eq_true]
      split
      · simp only [e7, c3, e9, Option.bind_some, asP_pointer, asB_bool, asI_int, asS_string, asSl_slice, asM_map, asTup0, asTup1, asTup2, asTup3, asTup4, asTup5, getD0, getD1, getD2, getD3, getD4, Bool.not_true, Bool.not_false, Bool.false_eq_true, Bool.true_eq_false, ↓reduceIte, decide_true, decide_false, Option.isNone_some, Option.isNone_none, Option.isSome_some, Option.isSome_none, beq_self_eq_true, bne_self_eq_false, Bool.and_true, Bool.true_and, Bool.and_false, Bool.false_and, not_true_eq_false, not_false_eq_true]
      · simp only [e7, c3, e9, Option.bind_some, asP_pointer, asB_bool, asI_int, asS_string, asSl_slice, asM_map, asTup0, asTup1, asTup2, asTup3, asTup4, asTup5, getD0, getD1, getD2, getD3, getD4, Bool.not_true, Bool.not_false, Bool.false_eq_true, Bool.true_eq_false, ↓reduceIte, decide_true, decide_false, Option.isNone_some, Option.isNone_none, Option.isSome_some, Option.isSome_none, beq_self_eq_true, bne_self_eq_false, Bool.and_true, Bool.true_and, Bool.and_false, Bool.false_and, not_true_eq_false, not_false_eq_true]
    · -- the power went
      have h90 : ((9 : Int) == 0) = false := by decide
      have h99 : ((9 : Int) == 9) = true := by decide
      have h92 : ((9 : Int) == 2) = false := by decide
      rw [k1] at e6
      rw [if_neg (by rw [k1]; decide)] at s2
      have hP2 := hP1.did i2 s2 hl
      cases dead with
      | false =>
        obtain ⟨q7, w3, e7, L3, f3⟩ := copied25 (hL.fr F2 (by simp)) (hold' F2) (by omega) hlp
        have hP3 := hP2.fr0 f3
        have e9 := tail22 hP3 (s13 := (false, some ⟨wb, 0, none⟩, q, wh, (least : Int), db, (k : Int))) (k := k) ⟨rfl, rfl⟩ hk9 q7 _ rfl true
        refine ⟨_, w3, ?_, D2, _, _, _, all, least, count, wb, fb, tb, q, q7, true, rfl, hP3⟩
        simp only [k0', k1', h22, addr_add, Nat.zero_add, cc, e4, e5, e6, h90, h99, c2, e7, e9, Option.bind_some, asP_pointer, asB_bool, asI_int, asS_string, asSl_slice, asM_map, asTup0, asTup1, asTup2, asTup3, asTup4, asTup5, getD0, getD1, getD2, getD3, getD4, Bool.not_true, Bool.not_false, Bool.false_eq_true, Bool.true_eq_false, ↓reduceIte, decide_true, decide_false, Option.isNone_some, Option.isNone_none, Option.isSome_some, Option.isSome_none, beq_self_eq_true, bne_self_eq_false, Bool.and_true, Bool.true_and, Bool.and_false, Bool.false_and, not_true_eq_false, not_false_eq_true]
      | true =>
        have e7 := long12 (hL.fr F2 (by simp)) (by omega)
        rw [hlo] at e7
        have hbb : (!((false : Bool) == false)) = false := by decide
        have e9 := tail22 hP2 (s13 := (false, some ⟨wb, 0, none⟩, q, wh, (least : Int), db, (k : Int))) (k := k) ⟨rfl, rfl⟩ hk9 wh _ rfl db
        refine ⟨_, w2, ?_, D2, _, _, _, all, least, count, wb, fb, tb, q, wh, db, rfl, hP2⟩
        simp only [k0', k1', h22, addr_add, Nat.zero_add, cc, e4, e5, e6, h90, h99, h92, c2, e7, hbb, e9, Option.bind_some, asP_pointer, asB_bool, asI_int, asS_string, asSl_slice, asM_map, asTup0, asTup1, asTup2, asTup3, asTup4, asTup5, getD0, getD1, getD2, getD3, getD4, Bool.not_true, Bool.not_false, Bool.false_eq_true, Bool.true_eq_false, ↓reduceIte, decide_true, decide_false, Option.isNone_some, Option.isNone_none, Option.isSome_some, Option.isSome_none, beq_self_eq_true, bne_self_eq_false, Bool.and_true, Bool.true_and, Bool.and_false, Bool.false_and, not_true_eq_false, not_false_eq_true]
    · -- it was refused
      have h0' : (r.1 == 0) = false := by simpa using k1
      have h9' : (r.1 == 9) = false := by simpa using k2
      rw [if_neg k1] at s2
      have hP2 := hP1.did i2 s2 hl
      have e7 := long12 (hL.fr F2 (by simp)) (by omega)
      have hbb : (!((r.1 == 2) == longP ps)) = false := by
        rw [← k3]
        by_cases h : r.1 = 2 <;> simp [h]
      have e9 := tail22 hP2 (s13 := (false, some ⟨wb, 0, none⟩, q, wh, (least : Int), db, (k : Int))) (k := k) ⟨rfl, rfl⟩ hk9 wh _ rfl db
      refine ⟨_, w2, ?_, D2, _, _, _, all, least, count, wb, fb, tb, q, wh, db, rfl, hP2⟩
      simp only [k0', k1', h22, addr_add, Nat.zero_add, cc, e4, e5, e6, h0', h9', c2, e7, hbb, e9, Option.bind_some, asP_pointer, asB_bool, asI_int, asS_string, asSl_slice, asM_map, asTup0, asTup1, asTup2, asTup3, asTup4, asTup5, getD0, getD1, getD2, getD3, getD4, Bool.not_true, Bool.not_false, Bool.false_eq_true, Bool.true_eq_false, ↓reduceIte, decide_true, decide_false, Option.isNone_some, Option.isNone_none, Option.isSome_some, Option.isSome_none, beq_self_eq_true, bne_self_eq_false, Bool.and_true, Bool.true_and, Bool.and_false, Bool.false_and, not_true_eq_false, not_false_eq_true]
  have k2' : (kd == 2) = false := by simpa using k2
  by_cases k3 : kd = 3
  · subst k3
    have h33 : ((3 : Int) == 3) = true := by decide
    obtain ⟨j, j1, j2, ho1, ho2, ho3, hlaw⟩ := hPv.law.open_ n
    obtain ⟨w1, e4, d1, c1⟩ := crash14 hPv.ws.dk hn4
    obtain ⟨F1, hD1⟩ := chg_fresh c1 hPv.fr hPv.hD
    obtain ⟨w2, D2, d2, c2', g2'⟩ := open10 d1 nmW
    rcases g2' with ⟨g2', _⟩ | ⟨_, wb', fb', tb', z2, q2, e5, l2, X2, Z2, K2, L2⟩
    · exact absurd ho1 g2'
    rw [ho2] at l2 L2
    rw [show (openA (crashA n A) (-1) false nmW).2.2.2.1 = -1 by rw [ho3], show (openA (crashA n A) (-1) false nmW).2.2.2.2 = false by rw [ho3]] at d2
    obtain ⟨F2, hD2⟩ := chg_fresh c2' F1 hD1
    have hjl : (all.take j).length = j := by rw [List.length_take]; omega
    have zz1 := F1.size
    have s2 : WS w2 D2 (W.heap.size + 1) (openA (crashA n A) (-1) false nmW).2.2.1 (-1) false wb' fb' tb' nmW ((j : Nat) : Int) := ⟨d2, by rw [hjl] at l2; exact l2, fun y hy => (X2 y hy).2.2⟩
    have e6 := count18 s2.wl
    have hq2 := L2.len
    rw [hjl] at hq2
    have hlen := hPv.law.len
    have h8 := len8 all
    obtain ⟨R, lo, hR⟩ := hPv.ls
    have lo2 : LsO 31 R (ElO 5 .u8 R) w2 q all := by
      obtain ⟨S1, f1, hS1⟩ := c1.fr
      obtain ⟨S2, f2, hS2⟩ := c2'.fr
      exact (lo.fr (stays_o _ _ _) f1 (fun y hy _ hr => (hR y hr).2.2.1 (hS1 y hy))).fr (stays_o _ _ _) f2 (fun y hy _ hr => (hR y hr).2.2.1 (hS2 y hy))
    obtain ⟨w3, e7, f3⟩ := prefix29 (least := least) L2.lst' lo2.lst' lo2.le j1 j2 (by omega) (fun p hp => by have := hPv.law.sm p hp; omega)
    have L3 := L2.fr (stays_o _ _ _) f3 (by simp)
    have F3 : Fr [] W w3 := (Fr.mono (Fr.app F2 f3) (by have z0_ := Fr.size F2; have z1_ := Fr.size f3; intro y_ hy_ hl_; grind [blkOf]))
    have s3 := s2.fr f3 (by simp)
    have L3a := lso_alive L3
    obtain ⟨q4, w4, e8, L4, f4⟩ := copied25 L3a.lst' (fun y hy => hy.2) (by omega) (fun p hp => by have := hPv.law.sm p (List.mem_of_mem_take hp); omega)
    have F4 : Fr [] W w4 := (Fr.mono (Fr.app F3 f4) (by have z0_ := Fr.size F3; have z1_ := Fr.size f4; intro y_ hy_ hl_; grind [blkOf]))
    have s4 := s3.fr f4 (by simp)
    have lt3D := s3.dk.lt
    have lt3X := s3.wl.lt
    have zz3 := F3.size
    have hP4 : PW W w4 D2 (openA (crashA n A) (-1) false nmW).2.2.1 (-1) false (all.take j) j j wb' fb' tb' q4 := ⟨s4, hlaw, hD2, fun y hy => by have := (X2 y hy).1; omega, F4, _, lso_alive L4, fun y hy => ⟨by have := hy.1; omega, hy.2, fun hh => by have := hy.1; have := lt3D y hh; omega, fun hh => by have := hy.1; have := lt3X y hh; omega⟩⟩
    have e9 := tail22 hP4 (s13 := (false, some ⟨wb, 0, none⟩, q, wh, (least : Int), db, (k : Int))) (k := k) ⟨rfl, rfl⟩ hk9 wh (q2.2.1 : Int) (by omega) false
    have cc := (ct hbk).2.2
    have h00 : ((0 : Int) != 0) = false := by decide
    have hqj : (((j : Nat) : Int) != (q2.2.1 : Int)) = false := by
      have : ((j : Nat) : Int) = (q2.2.1 : Int) := by omega
      simp [this]
    have e5' : callF Try.prog 10 #[.pointer (some ⟨W.heap.size + 1, 0, none⟩), .string (⟨#[119]⟩ : ByteArray)] w1 = _ := e5
    refine ⟨_, w4, ?_, D2, _, -1, false, all.take j, j, j, wb', fb', tb', q4, wh, false, rfl, hP4⟩
    simp only [k0', k1', k2', h33, addr_add, Nat.zero_add, cc, e4, e5', h00, e6, hqj, e7, e8, e9, Option.bind_some, asP_pointer, asB_bool, asI_int, asS_string, asSl_slice, asM_map, asTup0, asTup1, asTup2, asTup3, asTup4, asTup5, getD0, getD1, getD2, getD3, getD4, Bool.not_true, Bool.not_false, Bool.false_eq_true, Bool.true_eq_false, ↓reduceIte, decide_true, decide_false, Option.isNone_some, Option.isNone_none, Option.isSome_some, Option.isSome_none, beq_self_eq_true, bne_self_eq_false, Bool.and_true, Bool.true_and, Bool.and_false, Bool.false_and, not_true_eq_false, not_false_eq_true]
  have k3' : (kd == 3) = false := by simpa using k3
  obtain ⟨w1, e4, d1, c1⟩ := arm11 hPv.ws.dk (n := n) (by omega)
  have s1 := hPv.ws.step d1 c1
  have hP1 := hPv.did (Did.of_chg c1) s1 hPv.law
  have e6 := tail22 hP1 (s13 := (false, some ⟨wb, 0, none⟩, q, wh, (least : Int), db, (k : Int))) (k := k) ⟨rfl, rfl⟩ hk9 wh _ rfl db
  have cc := (ct hbk).2.2
  refine ⟨_, w1, ?_, D, A, _, dead, all, least, count, wb, fb, tb, q, wh, db, rfl, hP1⟩
  simp only [k0', k1', k2', k3', addr_add, Nat.zero_add, cc, e4, e6, Option.bind_some, asP_pointer, asB_bool, asI_int, asS_string, asSl_slice, asM_map, asTup0, asTup1, asTup2, asTup3, asTup4, asTup5, getD0, getD1, getD2, getD3, getD4, Bool.not_true, Bool.not_false, Bool.false_eq_true, Bool.true_eq_false, ↓reduceIte, decide_true, decide_false, Option.isNone_some, Option.isNone_none, Option.isSome_some, Option.isSome_none, beq_self_eq_true, bne_self_eq_false, Bool.and_true, Bool.true_and, Bool.and_false, Bool.false_and, not_true_eq_false, not_false_eq_true]

theorem WalPlays_main (W : World) (x0 : (Ty.slice (.cons (.int .i64) (.cons (.slice (.int .u8)) (.cons (.slice (.slice (.int .u8))) (.cons (.int .i64) .nil))))).Val) (h0 : (Ty.slice (.cons (.int .i64) (.cons (.slice (.int .u8)) (.cons (.slice (.slice (.int .u8))) (.cons (.int .i64) .nil))))).At W [.slice x0.1.1 x0.1.2.1 x0.1.2.2] x0) (hb : (Ty.slice (.cons (.int .i64) (.cons (.slice (.int .u8)) (.cons (.slice (.slice (.int .u8))) (.cons (.int .i64) .nil))))).bulk x0 ≤ 1048576) :
    ∃ w', callF Try.prog 8 #[.slice x0.1.1 x0.1.2.1 x0.1.2.2] W = some (.bool true, w') ∧ Fr [] W w' := by
  have hll := h0.2.1
  obtain ⟨w1, w2, D, wb, fb, tb, z, q, e1, e2, s2, F2, hD, hX, hq, _, _⟩ := start W
  obtain ⟨w3, e3, f3⟩ := awake11 (w := w2)
  have s3 := s2.fr f3 (by simp)
  have F3 : Fr [] W w3 := (Fr.mono (Fr.app F2 f3) (by have z0_ := Fr.size F2; have z1_ := Fr.size f3; intro y_ hy_ hl_; grind [blkOf]))
  have hP : PW W w3 D [(nmW, [], 0)] (-1) false [] 0 0 wb fb tb (none, 0, 0) :=
    ⟨s3, ⟨⟨[], 0, by simp [kget_cons, encs], Part.nil, fun _ => rfl, by simp [encs], by simp⟩, by simp, by simp, by simp [encs], Nat.le_refl _, fun _ => rfl, by decide⟩, hD, hX, F3, fun _ => False, LsO.nil, fun y hy => hy.elim⟩
  obtain ⟨e, t, w4, q1, q2⟩ := loopS_rule (b := g8_l12_b x0.1 (some ⟨W.heap.size + 1, 0, none⟩)) (I := RInv W) (Q := fun e s x => e = .exit 0 ∧ Fr [] W x) (n := x0.2.length)
    (fun k s x hk hi => by
      obtain ⟨s', x', k1, k2⟩ := plays_round h0 hb k s x hk hi
      exact ⟨.normal, s', x', k1, .inl ⟨rfl, k2⟩⟩)
    (fun s x hi => by
      obtain ⟨D, A, fuse, dead, all, least, count, wb, fb, tb, q, wh, db, rfl, hP⟩ := hi
      have hc : ¬ ((x0.2.length : Nat) : Int) < (x0.1.2.1 : Int) := by omega
      refine ⟨.exit 0, (false, some ⟨wb, 0, none⟩, q, wh, (least : Int), db, ((x0.2.length : Nat) : Int)), x, ?_, by simp, rfl, hP.fr⟩
      unfold g8_l12_b
      simp only [hc, Option.bind_some, asP_pointer, asB_bool, asI_int, asS_string, asSl_slice, asM_map, asTup0, asTup1, asTup2, asTup3, asTup4, asTup5, getD0, getD1, getD2, getD3, getD4, Bool.not_true, Bool.not_false, Bool.false_eq_true, Bool.true_eq_false, ↓reduceIte, decide_true, decide_false, Option.isNone_some, Option.isNone_none, Option.isSome_some, Option.isSome_none, beq_self_eq_true, bne_self_eq_false, Bool.and_true, Bool.true_and, Bool.and_false, Bool.false_and, not_true_eq_false, not_false_eq_true])
    (Nat.zero_le _) (k := 0) (s := (false, some ⟨wb, 0, none⟩, (none, 0, 0), (none, 0, 0), 0, false, 0)) (w := w3) ⟨D, _, _, _, [], 0, 0, wb, fb, tb, _, _, false, rfl, hP⟩
  obtain ⟨rfl, F4⟩ := q2
  have h00 : ((0 : Int) != 0) = false := by decide
  have hq0 : ((q.2.1 : Int) != 0) = false := by rw [hq]; rfl
  have e2' : callF Try.prog 10 #[.pointer (some ⟨W.heap.size + 1, 0, none⟩), .string (⟨#[119]⟩ : ByteArray)] w1 = _ := e2
  refine ⟨w4, g8_call ?_, F4⟩
  unfold g8
  simp only [e1, e2', e3, h00, hq0, g8_l12_x0_of q1, g8_l12_x0, Option.bind_some, asP_pointer, asB_bool, asI_int, asS_string, asSl_slice, asM_map, asTup0, asTup1, asTup2, asTup3, asTup4, asTup5, getD0, getD1, getD2, getD3, getD4, Bool.not_true, Bool.not_false, Bool.false_eq_true, Bool.true_eq_false, ↓reduceIte, decide_true, decide_false, Option.isNone_some, Option.isNone_none, Option.isSome_some, Option.isSome_none, beq_self_eq_true, bne_self_eq_false, Bool.and_true, Bool.true_and, Bool.and_false, Bool.false_and, not_true_eq_false, not_false_eq_true]
end Go.Proofs.Ytnflklkjjjlpaaa
