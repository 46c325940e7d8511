/-
  WalTorn: lemmas on what Go functions of this seat come to (for whatever arguments, as each says). No condition but those that stand in each lemma.
-/
import Derived.Test.YtnflklkjjjlpaaaWalG
import Derived.Test.YtnflklkjjjlpaaaWalL4b
namespace Go.Proofs.Ytnflklkjjjlpaaa
open Go Go.Ev Go.Crc
set_option maxRecDepth 100000
set_option linter.unusedVariables false
set_option linter.unusedSimpArgs false

theorem docscan_any {w : World} {u : Option Addr × Nat × Nat} {bs : List Int} (hu : Sl8 w u bs) (hz : Zs bs) (hcap : u.2.1 ≤ u.2.2) (hl : bs.length ≤ 1073741824) (hlt : ∀ y ∈ blkOf u, 0 < bs.length → y < w.heap.size) :
    ∃ v' w', callF Try.prog 21 #[.slice u.1 u.2.1 u.2.2] w = some (.tuple #[.slice v'.1 v'.2.1 v'.2.2, .int .i64 ((scan bs).2.1 : Int), .int .i64 (scan bs).2.2], w') ∧
      Lst .u8 w' (fun y => (0 < bs.length ∧ y ∈ blkOf u) ∨ w.heap.size ≤ y) v' (scan bs).1 ∧ Fr [] w w' := by
  by_cases hz0 : bs.length = 0
  · have hs := scan_nil hz0
    refine ⟨(none, 0, 0), w, g21_call ?_, ?_, Fr.refl _ _⟩
    · have hc : ¬ ((0 : Int) < (u.2.1 : Int)) := by have := hu.1; omega
      have eb : g21_l1_b u ((none, 0, 0), 0, 0, (none, 0, 0), 0) w = some (.exit 0, ((none, 0, 0), 0, 0, (none, 0, 0), 0), w) := by
        unfold g21_l1_b
        simp only [hc, Option.bind_some, asP_pointer, asB_bool, asI_int, asS_string, asSl_slice, asM_map, asTup0, asTup1, asTup2, asTup3, asTup4, asTup5, getD0, getD1, getD2, getD3, getD4, Bool.not_true, Bool.not_false, Bool.false_eq_true, Bool.true_eq_false, ↓reduceIte, decide_true, decide_false, Option.isNone_some, Option.isNone_none, Option.isSome_some, Option.isSome_none, beq_self_eq_true, bne_self_eq_false, Bool.and_true, Bool.true_and, Bool.and_false, Bool.false_and, not_true_eq_false, not_false_eq_true]
      rw [hs]
      unfold g21
      simp only [g21_l1_x0_of (loopS_out (by simp) eb), g21_l1_x0, Option.bind_some, asP_pointer, asB_bool, asI_int, asS_string, asSl_slice, asM_map, asTup0, asTup1, asTup2, asTup3, asTup4, asTup5, getD0, getD1, getD2, getD3, getD4, Bool.not_true, Bool.not_false, Bool.false_eq_true, Bool.true_eq_false, ↓reduceIte, decide_true, decide_false, Option.isNone_some, Option.isNone_none, Option.isSome_some, Option.isSome_none, beq_self_eq_true, bne_self_eq_false, Bool.and_true, Bool.true_and, Bool.and_false, Bool.false_and, not_true_eq_false, not_false_eq_true]
      rfl
    · rw [hs]; exact LsO.lst (LsO.nil (el := 31))
  · obtain ⟨q5, w2, e2, s2, f2⟩ := docscan17 hu hz hcap hl (fun y hy => hlt y hy (by omega))
    exact ⟨q5, w2, e2, s2.mono (fun y hy => hy.imp (fun hy => ⟨by omega, hy⟩) id), f2⟩

theorem app_new {p : List Int} (hp : p.length ≤ 4000000) : appA [] (-1) false nmW p = (0, [(nmW, p, 0)], -1, false) := by
  rcases app_cases (A := []) (fuse := -1) (p := p) okW with ⟨h1, h2⟩ | ⟨h1, h2⟩
  · exfalso
    have hu : used [] = 0 := rfl
    rw [hu] at h2
    simp at h2; omega
  · rw [h1]
    have ht : tookN (-1) p.length = p.length := rfl
    rw [ht]
    simp [kups, putF, fuseN]

theorem sync_one {d : List Int} {s : Nat} : syncA [(nmW, d, s)] false nmW = (0, [(nmW, d, d.length)]) := by
  unfold syncA; rw [if_neg (by decide)]
  simp [kget_cons, kups, synF]

/-- Open of the only file, all of it synced -/
theorem open_one {d : List Int} (hz : Zs d) : openA [(nmW, d, d.length)] (-1) false nmW = (0, (scan d).1, [(nmW, encs (scan d).1, (encs (scan d).1).length)], -1, false) := by
  obtain ⟨h1, h2⟩ := scan_inv d hz
  have hl := scan_le d
  rw [open_has (A := [(nmW, d, d.length)]) (fuse := -1) (n := nmW) (d := d) (s := d.length) (by simp [kget_cons])]
  by_cases h : (scan d).2.1 < d.length
  · rw [if_pos h]
    have : kups [(nmW, d, d.length)] nmW (cutF (scan d).2.1) = [(nmW, d.take (scan d).2.1, min d.length (scan d).2.1)] := by simp [kups, cutF]
    rw [this, ← h1, List.length_take, Nat.min_comm]
  · rw [if_neg h, ← h1, List.take_of_length_le (by omega)]

theorem WalTorn_main (W : World) (x0 : (Ty.slice (.int .u8)).Val) (h0 : (Ty.slice (.int .u8)).At W [.slice x0.1.1 x0.1.2.1 x0.1.2.2] x0) (x1 : (Ty.slice (.int .u8)).Val) (h1 : (Ty.slice (.int .u8)).At W [.slice x1.1.1 x1.1.2.1 x1.1.2.2] x1) :
    ∃ w', callF Try.prog 4 #[.slice x0.1.1 x0.1.2.1 x0.1.2.2, .slice x1.1.1 x1.1.2.1 x1.1.2.2] W = some (.bool true, w') ∧ Fr [] W w' := by
  obtain ⟨u0, bs⟩ := x0
  obtain ⟨u1, p⟩ := x1
  have hcap0 := h0.2.2.1
  obtain ⟨hu0, hz0, hlt0⟩ := slI_of_at h0
  obtain ⟨hu1, hz1, hlt1⟩ := slI_of_at h1
  simp only at hu0 hz0 hlt0 hu1 hz1 hlt1 hcap0 ⊢
  replace hz0 : Zs bs := fun z hz => u8_range (hz0 z hz)
  replace hz1 : Zs p := fun z hz => u8_range (hz1 z hz)
  have hl0 := hu0.1
  have hl1 := hu1.1
  obtain ⟨w1, D1, e1, d1, f1, n1⟩ := new8 W
  obtain ⟨w2, e2, f2⟩ := awake11 (w := w1)
  have F2 : Fr [] W w2 := (Fr.mono (Fr.app f1 f2) (by have z0_ := Fr.size f1; have z1_ := Fr.size f2; intro y_ hy_ hl_; grind [blkOf]))
  have d2 := d1.fr f2 (by simp)
  by_cases g1 : ((u0.2.1 : Nat) : Int) > 262144
  · obtain ⟨w3, e3, f3⟩ := awake11 (w := w2)
    refine ⟨w3, g4_call ?_, (Fr.mono (Fr.app F2 f3) (by have z0_ := Fr.size F2; have z1_ := Fr.size f3; intro y_ hy_ hl_; grind [blkOf]))⟩
    unfold g4
    simp only [e1, e2, g1, e3, Option.bind_some, asP_pointer, asB_bool, asI_int, asS_string, asSl_slice, asM_map, asTup0, asTup1, asTup2, asTup3, asTup4, asTup5, getD0, getD1, getD2, getD3, getD4, Bool.not_true, Bool.not_false, Bool.false_eq_true, Bool.true_eq_false, ↓reduceIte, decide_true, decide_false, Option.isNone_some, Option.isNone_none, Option.isSome_some, Option.isSome_none, beq_self_eq_true, bne_self_eq_false, Bool.and_true, Bool.true_and, Bool.and_false, Bool.false_and, not_true_eq_false, not_false_eq_true]
  by_cases g2 : ((u1.2.1 : Nat) : Int) > 4096
  · obtain ⟨w3, e3, f3⟩ := awake11 (w := w2)
    refine ⟨w3, g4_call ?_, (Fr.mono (Fr.app F2 f3) (by have z0_ := Fr.size F2; have z1_ := Fr.size f3; intro y_ hy_ hl_; grind [blkOf]))⟩
    unfold g4
    simp only [e1, e2, g1, g2, e3, Option.bind_some, asP_pointer, asB_bool, asI_int, asS_string, asSl_slice, asM_map, asTup0, asTup1, asTup2, asTup3, asTup4, asTup5, getD0, getD1, getD2, getD3, getD4, Bool.not_true, Bool.not_false, Bool.false_eq_true, Bool.true_eq_false, ↓reduceIte, decide_true, decide_false, Option.isNone_some, Option.isNone_none, Option.isSome_some, Option.isSome_none, beq_self_eq_true, bne_self_eq_false, Bool.and_true, Bool.true_and, Bool.and_false, Bool.false_and, not_true_eq_false, not_false_eq_true]
  have zz2 := F2.size
  obtain ⟨w3, D3, e3, d3, c3⟩ := append10 d2 nmW (hu0.fr2 F2 (by simp)) hz0 hcap0 (fun h y hy hm => by have := hlt0 y hy h; have := n1 y hm; omega) (by omega)
  rw [app_new (by omega)] at e3 d3
  obtain ⟨F3, hD3⟩ := chg_fresh c3 F2 n1
  obtain ⟨w4, e4, d4, c4⟩ := sync13 d3 nmW
  rw [sync_one] at e4 d4
  obtain ⟨F4, hD4⟩ := chg_fresh c4 F3 hD3
  have z4 := F4.size
  obtain ⟨q5, w5, e5, l5, f5⟩ := docscan_any (hu0.fr2 F4 (by simp)) hz0 hcap0 (by omega) (fun y hy h => by have := hlt0 y hy h; omega)
  have F5 : Fr [] W w5 := (Fr.mono (Fr.app F4 f5) (by have z0_ := Fr.size F4; have z1_ := Fr.size f5; intro y_ hy_ hl_; grind [blkOf]))
  have d5 := d4.fr f5 (by simp)
  have l5 := lst_alive l5
  obtain ⟨w6, D6, d6, c6, h6⟩ := open10 d5 nmW
  rw [open_one hz0] at d6 h6
  have hb := (scan_inv bs hz0).2
  have hbl := scan_len bs
  obtain ⟨hbi, _⟩ := scan_inv bs hz0
  have hle := scan_le bs
  have hul : (scan bs).2.1 = (encs (scan bs).1).length := by rw [← hbi, List.length_take]; omega
  rcases h6 with ⟨h6, _⟩ | ⟨_, wb, fb, tb, z6, q6, e6, wl6, hX6, hz6, hD6, hL6⟩
  · exact absurd rfl h6
  simp only at d6 e6 wl6 hL6
  obtain ⟨ps, hps⟩ : ∃ ps, (scan bs).1 = ps := ⟨_, rfl⟩
  rw [hps] at d6 wl6 hL6 l5 hb hbl hul
  have s6 : WS w6 D6 (W.heap.size + 1) [(nmW, encs ps, (encs ps).length)] (-1) false wb fb tb nmW (ps.length : Int) := ⟨d6, wl6, fun y hy => (hX6 y hy).2.2⟩
  obtain ⟨F6, hD6'⟩ := chg_fresh c6 F5 hD4
  have zf4 := f5.size
  have z5 := F5.size
  have hX6' : ∀ y, Xw wb fb tb y → W.heap.size ≤ y := fun y hy => by have := (hX6 y hy).1; omega
  -- the document's list outlives what follows
  have hltD4 := d4.lt
  have n6 := c6.new
  have l6 : Lst .u8 w6 (fun y => ((0 < bs.length ∧ y ∈ blkOf u0) ∨ w4.heap.size ≤ y) ∧ y < w5.heap.size) q5 ps := by
    obtain ⟨S, f, hS⟩ := c6.fr
    refine l5.fr f ?_
    intro y hy _ ⟨hm, _⟩
    have hd := hS y hy
    rcases hm with ⟨hm, hm2⟩ | hm
    · have := hlt0 y hm2 hm; have := hD4 y hd; omega
    · have := hltD4 y hd; omega
  have keepD : ∀ {w w' : World} {D : Nat → Prop}, Lst .u8 w (fun y => ((0 < bs.length ∧ y ∈ blkOf u0) ∨ w4.heap.size ≤ y) ∧ y < w5.heap.size) q5 ps → (∀ {S : List Nat}, Fr S w w' → (∀ y ∈ S, D6 y ∨ Xw wb fb tb y ∨ w5.heap.size ≤ y) → Lst .u8 w' (fun y => ((0 < bs.length ∧ y ∈ blkOf u0) ∨ w4.heap.size ≤ y) ∧ y < w5.heap.size) q5 ps) := by
    intro w w' _ hL S f hS
    refine hL.fr f ?_
    intro y hy _ ⟨hm, hm3⟩
    rcases hS y hy with hd | hd | hd
    · have a := hD6' y hd
      rcases n6 y hd with hh | hh
      · rcases hm with ⟨hm, hm2⟩ | hm
        · have := hlt0 y hm2 hm; omega
        · have := hltD4 y hh; omega
      · omega
    · have := (hX6 y hd).1; omega
    · omega
  obtain ⟨w7, e7, f7⟩ := size17 s6.dk nmW
  have es : sizeA [(nmW, encs ps, (encs ps).length)] false nmW = ((encs ps).length, (encs ps).length, 0) := by unfold sizeA; rw [if_neg (by decide)]; simp [kget_cons]
  rw [es] at e7
  have s7 := s6.fr f7 (by simp)
  have l7 := hL6.fr (stays_o _ _ _) f7 (by simp)
  have hpl : ∀ p ∈ ps, p.length < 9223372036854775807 := fun p hp => by have := hb p hp; omega
  obtain ⟨w8, e8, f8⟩ := samelist19 l7.lst' (l6.fr f7 (by simp)) (by omega) hpl
  have s8 := s7.fr f8 (by simp)
  have e9 := count18 s8.wl
  have F8 : Fr [] W w8 := (Fr.mono (Fr.app (Fr.app F6 f7) f8) (by have z0_ := Fr.size F6; have z1_ := Fr.size f7; have z2_ := Fr.size f8; intro y_ hy_ hl_; grind [blkOf]))
  have l8 := l7.fr (stays_o _ _ _) f8 (by simp)
  have hlen8 := hL6.len
  obtain ⟨w9, D9, e10, s9, i9⟩ := wapp (count := ps.length) s8 (hu1.fr2 F8 (by simp)) hz1 (fun h hm => by have := hlt1 tb hm h; have := hX6' tb (.inr (.inr rfl)); omega) (by omega)
  rw [wapp_one (by omega) (by omega)] at e10 s9
  simp only [if_true] at s9
  obtain ⟨F9, hD9⟩ := i9.fresh F8 hD6' hX6'
  obtain ⟨w10, e11, s10, i10⟩ := wsync s9
  rw [sync_one] at e11 s10
  obtain ⟨F10, hD10⟩ := i10.fresh F9 hD9 hX6'
  obtain ⟨w11, D11, d11, c11, h11⟩ := open10 s10.dk nmW
  have hsnoc : encs ps ++ enc p = encs (ps ++ [p]) := by rw [encs_append, encs_one]
  have hb' : ∀ r ∈ ps ++ [p], r.length ≤ 4096 := by
    intro r hr
    simp only [List.mem_append, List.mem_singleton] at hr
    rcases hr with hr | hr
    · exact hb r hr
    · subst hr; omega
  have hzs : Zs (encs ps ++ enc p) := by
    have : Zs (encs ps) := by rw [← hps, ← hbi]; exact fun z hz => hz0 z (List.mem_of_mem_take hz)
    intro z hz
    rcases List.mem_append.mp hz with hz | hz
    · exact this z hz
    · exact enc_zs hz1 z hz
  have eo := open_one hzs
  rw [hsnoc, scan_all hb'] at eo
  simp only at eo
  rw [hsnoc, eo] at d11 h11
  rcases h11 with ⟨h11, _⟩ | ⟨_, wb', fb', tb', z11, q11, e12, wl11, hX11, hz11, hD11, hL11⟩
  · exact absurd rfl h11
  simp only at e12 hL11
  obtain ⟨F11, hD11'⟩ := chg_fresh c11 F10 hD10
  have hlen11 := hL11.len
  simp only [List.length_append, List.length_singleton] at hlen11
  have hcap11 : q11.2.1 ≤ q11.2.2 := by obtain ⟨qs, o, _⟩ := hL11; exact o.le
  have l11 : Lst .u8 w11 (fun y => ((0 < bs.length ∧ y ∈ blkOf u0) ∨ w4.heap.size ≤ y) ∧ y < w5.heap.size) q5 ps := by
    have n9 := i9.new
    have n10 := i10.new
    have z8 : w5.heap.size ≤ w8.heap.size := by obtain ⟨S, f, _⟩ := c6.fr; have := f.size; have := f7.size; have := f8.size; omega
    have z9 := i9.size
    have a8 := (l6.fr f7 (by simp)).fr f8 (by simp)
    obtain ⟨S9, f9, hS9⟩ := i9.fr
    have a9 := keepD (D := D6) a8 f9 (fun y hy => (hS9 y hy).imp id .inl)
    have d9 : ∀ y, D9 y → D6 y ∨ w5.heap.size ≤ y := fun y hy => (n9 y hy).imp id (fun h => by omega)
    obtain ⟨S10, f10, hS10⟩ := i10.fr
    have a10 := keepD (D := D6) a9 f10 (fun y hy => by rcases hS10 y hy with h | h; exact (d9 y h).imp id .inr; exact .inr (.inl h))
    obtain ⟨S, f, hS⟩ := c11.fr
    exact keepD (D := D6) a10 f (fun y hy => (d9 y (hS y hy)).imp id .inr)
  have hcut := Lst.cut hL11.lst' (j := q5.2.1) (by have := l11.len; simp; omega) hcap11
  have hql := l11.len
  rw [show q5.2.1 = ps.length from hql.symm, List.take_left] at hcut
  have hsl := slc_to (u := q11) (n := 1) (j := q5.2.1) (by omega)
  rw [show q5.2.1 = ps.length from hql.symm] at hsl
  obtain ⟨w12, e13, f12⟩ := samelist19 hcut l11 (by omega) hpl
  obtain ⟨a, q14, i14, c14, r14, _, _⟩ := (hL11.fr (stays_o _ _ _) f12 (by simp)).lst'.get (i := ps.length) (by simp)
  have F12 : Fr [] W w12 := (Fr.mono (Fr.app F11 f12) (by have z0_ := Fr.size F11; have z1_ := Fr.size f12; intro y_ hy_ hl_; grind [blkOf]))
  have r14' : Sl8 w12 q14 p := by simpa using r14
  obtain ⟨w13, e14, f13⟩ := same14 r14' (hu1.fr2 F12 (by simp)) (by omega)
  refine ⟨w13, g4_call ?_, (Fr.mono (Fr.app F12 f13) (by have z0_ := Fr.size F12; have z1_ := Fr.size f13; intro y_ hy_ hl_; grind [blkOf]))⟩
  have e3' : callF Try.prog 19 #[.pointer (some ⟨W.heap.size + 1, 0, none⟩), .string (⟨#[119]⟩ : ByteArray), .slice u0.1 u0.2.1 u0.2.2] w2 = some (.int .i64 0, w3) := e3
  have e4' : callF Try.prog 20 #[.pointer (some ⟨W.heap.size + 1, 0, none⟩), .string (⟨#[119]⟩ : ByteArray)] w3 = some (.int .i64 0, w4) := e4
  have e6' : callF Try.prog 10 #[.pointer (some ⟨W.heap.size + 1, 0, none⟩), .string (⟨#[119]⟩ : ByteArray)] w5 = _ := e6
  have e7' : callF Try.prog 22 #[.pointer (some ⟨W.heap.size + 1, 0, none⟩), .string (⟨#[119]⟩ : ByteArray)] w6 = _ := e7
  have e12' : callF Try.prog 10 #[.pointer (some ⟨W.heap.size + 1, 0, none⟩), .string (⟨#[119]⟩ : ByteArray)] w10 = _ := e12
  have h00 : ((0 : Int) != 0) = false := by decide
  have h000 : ((0 : Int) == 0) = true := by decide
  have hdt : decide (ps = ps) = true := by simp
  have hdp : decide (p = p) = true := by simp
  have hun : ((((encs ps).length : Nat) : Int) != (((scan bs).2.1 : Nat) : Int)) = false := by rw [hul]; simp
  have hcn : (((ps.length : Nat) : Int) != (q6.2.1 : Int)) = false := by rw [hlen8]; simp
  have hq5 : q5.2.1 = ps.length := hql.symm
  have hw : IntKind.i64.wrap (((ps.length : Nat) : Int) + 1) = ((ps.length + 1 : Nat) : Int) := wrap_succ (by omega)
  have hqe : ((q11.2.1 : Int) == ((ps.length + 1 : Nat) : Int)) = true := by
    have : (q11.2.1 : Int) = ((ps.length + 1 : Nat) : Int) := by omega
    simp [this]
  simp only at e5 e7' e10 e11 e13
  simp only [hq5] at e5 e8 e13
  unfold g4
  simp only [e1, e2, g1, g2, e3', e4', e5, e6', e7', h00, hun, e8, hdt, e9, hcn, e10, e11, e12', h000, hq5, hw, hqe, hsl, e13, i14, c14, e14, hdp, Option.bind_some, asP_pointer, asB_bool, asI_int, asS_string, asSl_slice, asM_map, asTup0, asTup1, asTup2, asTup3, asTup4, asTup5, getD0, getD1, getD2, getD3, getD4, Bool.not_true, Bool.not_false, Bool.false_eq_true, Bool.true_eq_false, ↓reduceIte, decide_true, decide_false, Option.isNone_some, Option.isNone_none, Option.isSome_some, Option.isSome_none, beq_self_eq_true, bne_self_eq_false, Bool.and_true, Bool.true_and, Bool.and_false, Bool.false_and, not_true_eq_false, not_false_eq_true]
end Go.Proofs.Ytnflklkjjjlpaaa
