/-
  WalApart: lemmas on what Go functions of this seat come to (for whatever arguments, as each says). No condition but those that stand in each lemma.
-/
import Derived.Test.YtnflklkjjjlpaaaRs
import Derived.Test.YtnflklkjjjlpaaaWalG
import Derived.Test.YtnflklkjjjlpaaaWalL5
namespace Go.Proofs.Ytnflklkjjjlpaaa
open Go Go.Ev Go.Crc
set_option maxRecDepth 100000
set_option linter.unusedVariables false
set_option linter.unusedSimpArgs false

def nmV : ByteArray := ⟨#[118]⟩
theorem okV : okN nmV := by unfold okN; decide
theorem neVW : ¬ nmV = nmW := by decide
theorem neWV : ¬ nmW = nmV := by decide

/-- two logs upon one disk -/
structure WW (W w : World) (D : Nat → Prop) (b : Nat) (A : List (ByteArray × FV)) (a1 a2 a3 b1 b2 b3 : Nat) (m n : Int) : Prop where
  s1 : WS w D b A (-1) false a1 a2 a3 nmV m
  s2 : WS w D b A (-1) false b1 b2 b3 nmW n
  ap : ∀ y, Xw a1 a2 a3 y → ¬ Xw b1 b2 b3 y
  hD : ∀ y, D y → W.heap.size ≤ y
  h1 : ∀ y, Xw a1 a2 a3 y → W.heap.size ≤ y
  h2 : ∀ y, Xw b1 b2 b3 y → W.heap.size ≤ y
  fr : Fr [] W w

theorem wapp_v {d1 d2 p : List Int} (hp : p.length ≤ 4096) (hd : d1.length + d2.length ≤ 4000000) : wappA [(nmV, d1, 0), (nmW, d2, 0)] (-1) false nmV p = (0, [(nmV, d1 ++ enc p, 0), (nmW, d2, 0)], -1, false) := by
  have hl := enc_length p
  unfold wappA
  rw [if_neg (by omega)]
  rcases app_cases (A := [(nmV, d1, 0), (nmW, d2, 0)]) (fuse := -1) (p := enc p) okV with ⟨h1, h2⟩ | ⟨h1, h2⟩
  · exfalso
    have hu : used [(nmV, d1, 0), (nmW, d2, 0)] = d1.length + d2.length := by simp [used]
    have hk : kget [(nmV, d1, 0), (nmW, d2, 0)] nmV = some (d1, 0) := by simp [kget_cons]
    rw [hu, hk] at h2
    simp at h2; omega
  · rw [h1]
    have ht : tookN (-1) (enc p).length = (enc p).length := rfl
    rw [ht]
    simp [kups, putF, fuseN]
theorem wapp_w {d1 d2 p : List Int} (hp : p.length ≤ 4096) (hd : d1.length + d2.length ≤ 4000000) : wappA [(nmV, d1, 0), (nmW, d2, 0)] (-1) false nmW p = (0, [(nmV, d1, 0), (nmW, d2 ++ enc p, 0)], -1, false) := by
  have hl := enc_length p
  unfold wappA
  rw [if_neg (by omega)]
  rcases app_cases (A := [(nmV, d1, 0), (nmW, d2, 0)]) (fuse := -1) (p := enc p) okW with ⟨h1, h2⟩ | ⟨h1, h2⟩
  · exfalso
    have hu : used [(nmV, d1, 0), (nmW, d2, 0)] = d1.length + d2.length := by simp [used]
    have hk : kget [(nmV, d1, 0), (nmW, d2, 0)] nmW = some (d2, 0) := by simp [kget_cons, neWV]
    rw [hu, hk] at h2
    simp at h2; omega
  · rw [h1]
    have ht : tookN (-1) (enc p).length = (enc p).length := rfl
    rw [ht]
    simp [kups, putF, fuseN, neWV]

theorem encs_take_bound {ps : List (List Int)} (hs : ∀ p ∈ ps, p.length ≤ 4096) (k : Nat) : (encs (ps.take k)).length ≤ 4104 * ps.length := by
  have : ∀ l : List (List Int), (∀ p ∈ l, p.length ≤ 4096) → (encs l).length ≤ 4104 * l.length := by
    intro l
    induction l with
    | nil => intro _; simp [encs]
    | cons p l ih =>
      intro h
      have := ih fun q hq => h q (by simp [hq])
      have := h p (by simp)
      rw [encs_cons, List.length_append, enc_length, List.length_cons]; omega
  have h1 := this (ps.take k) (fun p hp => hs p (List.mem_of_mem_take hp))
  have h2 : (ps.take k).length ≤ ps.length := by rw [List.length_take]; omega
  omega

section
variable {W w : World} {D : Nat → Prop} {b a1 a2 a3 b1 b2 b3 : Nat} {m n : Nat} {d1 d2 : List Int}

theorem ww_v (h : WW W w D b [(nmV, d1, 0), (nmW, d2, 0)] a1 a2 a3 b1 b2 b3 (m : Int) (n : Int)) {q : Option Addr × Nat × Nat} {p : List Int} (hu : Sl8 w q p) (hz : Zs p) (hp : p.length ≤ 4096) (hb : 0 < p.length → ∀ y ∈ blkOf q, y < W.heap.size) (hd : d1.length + d2.length ≤ 4000000) (hm : m < 1000000) :
    ∃ w' D', callF Try.prog 14 #[.pointer (some ⟨a1, 0, none⟩), .slice q.1 q.2.1 q.2.2] w = some (.int .i64 0, w') ∧ WW W w' D' b [(nmV, d1 ++ enc p, 0), (nmW, d2, 0)] a1 a2 a3 b1 b2 b3 ((m + 1 : Nat) : Int) (n : Int) := by
  obtain ⟨s1, s2, ap, hD, h1, h2, fr⟩ := h
  obtain ⟨w', D', e, s1', i⟩ := wapp (count := m) s1 hu hz (fun h0 hm => by have := hb h0 a3 hm; have := h1 a3 (.inr (.inr rfl)); omega) (by omega)
  rw [wapp_v hp hd] at e s1'
  simp only [if_true] at s1'
  obtain ⟨F, hD'⟩ := i.fresh fr hD h1
  have new := i.new
  have hlt := s2.wl.lt
  have hap := s2.ap
  have wl2 : Wl w' b1 b2 b3 b nmW (n : Int) := by
    obtain ⟨S, f, hS⟩ := i.fr
    exact s2.wl.fr f (fun y hy hx => by rcases hS y hy with hh | hh; exact hap y hx hh; exact ap y hh hx)
  exact ⟨w', D', e, s1', ⟨s1'.dk, wl2, fun y hy hd => by rcases new y hd with hh | hh; exact hap y hy hh; have := hlt y hy; omega⟩, ap, hD', h1, h2, F⟩
theorem ww_w (h : WW W w D b [(nmV, d1, 0), (nmW, d2, 0)] a1 a2 a3 b1 b2 b3 (m : Int) (n : Int)) {q : Option Addr × Nat × Nat} {p : List Int} (hu : Sl8 w q p) (hz : Zs p) (hp : p.length ≤ 4096) (hb : 0 < p.length → ∀ y ∈ blkOf q, y < W.heap.size) (hd : d1.length + d2.length ≤ 4000000) (hn : n < 1000000) :
    ∃ w' D', callF Try.prog 14 #[.pointer (some ⟨b1, 0, none⟩), .slice q.1 q.2.1 q.2.2] w = some (.int .i64 0, w') ∧ WW W w' D' b [(nmV, d1, 0), (nmW, d2 ++ enc p, 0)] a1 a2 a3 b1 b2 b3 (m : Int) ((n + 1 : Nat) : Int) := by
  obtain ⟨s1, s2, ap, hD, h1, h2, fr⟩ := h
  obtain ⟨w', D', e, s2', i⟩ := wapp (count := n) s2 hu hz (fun h0 hm => by have := hb h0 b3 hm; have := h2 b3 (.inr (.inr rfl)); omega) (by omega)
  rw [wapp_w hp hd] at e s2'
  simp only [if_true] at s2'
  obtain ⟨F, hD'⟩ := i.fresh fr hD h2
  have new := i.new
  have hlt := s1.wl.lt
  have hap := s1.ap
  have wl1 : Wl w' a1 a2 a3 b nmV (m : Int) := by
    obtain ⟨S, f, hS⟩ := i.fr
    exact s1.wl.fr f (fun y hy hx => by rcases hS y hy with hh | hh; exact hap y hx hh; exact ap y hx hh)
  exact ⟨w', D', e, ⟨s2'.dk, wl1, fun y hy hd => by rcases new y hd with hh | hh; exact hap y hy hh; have := hlt y hy; omega⟩, s2', ap, hD', h1, h2, F⟩
end

theorem bulk_lists {us : List (List Int)} : us.length ≤ (us.map fun p => p.length + 1).sum := by
  induction us with
  | nil => simp
  | cons p l ih => simp only [List.map_cons, List.sum_cons, List.length_cons]; omega

/-- the lists are there, a round of both after k of them -/
def AInv (W : World) (us vs : List (List Int)) (a1 a2 a3 b1 b2 b3 : Nat) (k : Nat) (x : World) : Prop :=
  ∃ D, WW W x D (W.heap.size + 1) [(nmV, encs (us.take k), 0), (nmW, encs (vs.take k), 0)] a1 a2 a3 b1 b2 b3 ((us.take k).length : Int) ((vs.take k).length : Int)

theorem take_at {ps : List (List Int)} {k : Nat} (hk : k < ps.length) : encs (ps.take (k + 1)) = encs (ps.take k) ++ enc ps[k] ∧ (ps.take (k + 1)).length = (ps.take k).length + 1 := by
  rw [List.take_succ_eq_append_getElem hk, encs_append, encs_one]; simp; omega
theorem take_past {ps : List (List Int)} {k : Nat} (hk : ¬ k < ps.length) : ps.take (k + 1) = ps.take k := by
  rw [List.take_of_length_le (by omega), List.take_of_length_le (by omega)]

theorem apart_round {W : World} {u v : Option Addr × Nat × Nat} {us vs : List (List Int)} {a1 a2 a3 b1 b2 b3 : Nat} (hU : Lst .u8 W (fun y => y < W.heap.size) u us) (hV : Lst .u8 W (fun y => y < W.heap.size) v vs)
    (zu : ∀ p ∈ us, Zs p) (zv : ∀ p ∈ vs, Zs p) (su : ∀ p ∈ us, p.length ≤ 4096) (sv : ∀ p ∈ vs, p.length ≤ 4096) (hl : us.length + vs.length ≤ 100) {k : Nat} (hk : k < max us.length vs.length) {x : World}
    (h : AInv W us vs a1 a2 a3 b1 b2 b3 k x) :
    ∃ x', g5_l37_b u (some ⟨a1, 0, none⟩) v (some ⟨b1, 0, none⟩) (some ⟨W.heap.size + 1, 0, none⟩) (false, (k : Int)) x = some (.normal, (false, ((k + 1 : Nat) : Int)), x') ∧ AInv W us vs a1 a2 a3 b1 b2 b3 (k + 1) x' := by
  obtain ⟨D, h⟩ := h
  have lu := hU.len
  have lv := hV.len
  have bu := encs_take_bound su k
  have bv := encs_take_bound sv k
  have tu : (us.take k).length ≤ us.length := by rw [List.length_take]; omega
  have tv : (vs.take k).length ≤ vs.length := by rw [List.length_take]; omega
  have h00 : ((0 : Int) != 0) = false := by decide
  have hs := wrap_succ (n := k) (by omega)
  by_cases h1 : k < us.length
  · have c1 : (k : Int) < (u.2.1 : Int) := by omega
    obtain ⟨ad, q, i1, g1, r1, _, m1⟩ := (hU.fr h.fr (by simp)).get h1
    obtain ⟨x1, D1, e1, w1⟩ := ww_v h r1 (zu _ (List.getElem_mem h1)) (su _ (List.getElem_mem h1)) (fun h0 y hy => m1 h0 y hy) (by omega) (by omega)
    by_cases h2 : k < vs.length
    · have c2 : (k : Int) < (v.2.1 : Int) := by omega
      obtain ⟨ad2, q2, i2, g2, r2, _, m2⟩ := (hV.fr w1.fr (by simp)).get h2
      have bu1 := (take_at h1).1 ▸ encs_take_bound su (k + 1)
      obtain ⟨x2, D2, e2, w2⟩ := ww_w w1 r2 (zv _ (List.getElem_mem h2)) (sv _ (List.getElem_mem h2)) (fun h0 y hy => m2 h0 y hy) (by omega) (by omega)
      refine ⟨x2, ?_, D2, ?_⟩
      · unfold g5_l37_b
        simp only [c1, c2, i1, g1, e1, i2, g2, e2, h00, hs, Option.bind_some, asP_pointer, asB_bool, asI_int, asS_string, asSl_slice, asM_map, asTup0, asTup1, asTup2, asTup3, asTup4, asTup5, getD0, getD1, getD2, getD3, getD4, Bool.not_true, Bool.not_false, Bool.false_eq_true, Bool.true_eq_false, ↓reduceIte, decide_true, decide_false, Option.isNone_some, Option.isNone_none, Option.isSome_some, Option.isSome_none, beq_self_eq_true, bne_self_eq_false, Bool.and_true, Bool.true_and, Bool.and_false, Bool.false_and, not_true_eq_false, not_false_eq_true]
      · rw [(take_at h1).1, (take_at h1).2, (take_at h2).1, (take_at h2).2]; exact w2
    · have c2 : ¬ (k : Int) < (v.2.1 : Int) := by omega
      refine ⟨x1, ?_, D1, ?_⟩
      · unfold g5_l37_b
        simp only [c1, c2, i1, g1, e1, h00, hs, Option.bind_some, asP_pointer, asB_bool, asI_int, asS_string, asSl_slice, asM_map, asTup0, asTup1, asTup2, asTup3, asTup4, asTup5, getD0, getD1, getD2, getD3, getD4, Bool.not_true, Bool.not_false, Bool.false_eq_true, Bool.true_eq_false, ↓reduceIte, decide_true, decide_false, Option.isNone_some, Option.isNone_none, Option.isSome_some, Option.isSome_none, beq_self_eq_true, bne_self_eq_false, Bool.and_true, Bool.true_and, Bool.and_false, Bool.false_and, not_true_eq_false, not_false_eq_true]
      · rw [(take_at h1).1, (take_at h1).2, take_past h2]; exact w1
  · have h2 : k < vs.length := by omega
    have c1 : ¬ (k : Int) < (u.2.1 : Int) := by omega
    have c2 : (k : Int) < (v.2.1 : Int) := by omega
    obtain ⟨ad2, q2, i2, g2, r2, _, m2⟩ := (hV.fr h.fr (by simp)).get h2
    obtain ⟨x2, D2, e2, w2⟩ := ww_w h r2 (zv _ (List.getElem_mem h2)) (sv _ (List.getElem_mem h2)) (fun h0 y hy => m2 h0 y hy) (by omega) (by omega)
    refine ⟨x2, ?_, D2, ?_⟩
    · unfold g5_l37_b
      simp only [c1, c2, i2, g2, e2, h00, hs, Option.bind_some, asP_pointer, asB_bool, asI_int, asS_string, asSl_slice, asM_map, asTup0, asTup1, asTup2, asTup3, asTup4, asTup5, getD0, getD1, getD2, getD3, getD4, Bool.not_true, Bool.not_false, Bool.false_eq_true, Bool.true_eq_false, ↓reduceIte, decide_true, decide_false, Option.isNone_some, Option.isNone_none, Option.isSome_some, Option.isSome_none, beq_self_eq_true, bne_self_eq_false, Bool.and_true, Bool.true_and, Bool.and_false, Bool.false_and, not_true_eq_false, not_false_eq_true]
    · rw [take_past h1, (take_at h2).1, (take_at h2).2]; exact w2

theorem WalApart_main (W : World) (x0 : (Ty.slice (.slice (.int .u8))).Val) (h0 : (Ty.slice (.slice (.int .u8))).At W [.slice x0.1.1 x0.1.2.1 x0.1.2.2] x0) (x1 : (Ty.slice (.slice (.int .u8))).Val) (h1 : (Ty.slice (.slice (.int .u8))).At W [.slice x1.1.1 x1.1.2.1 x1.1.2.2] x1)
    (hs0 : Ty.Fits (.slice (.slice (.int .u8))) x0) (hs1 : Ty.Fits (.slice (.slice (.int .u8))) x1) :
    ∃ w', callF Try.prog 5 #[.slice x0.1.1 x0.1.2.1 x0.1.2.2, .slice x1.1.1 x1.1.2.1 x1.1.2.2] W = some (.bool true, w') ∧ Fr [] W w' := by
  obtain ⟨hU, zu, _⟩ := lst_of_at h0
  obtain ⟨hV, zv, _⟩ := lst_of_at h1
  replace zu := u8s zu
  replace zv := u8s zv
  have hb0 : x0.2.length * 24 ≤ 140737488351232 := Fits.sl hs0
  have hb1 : x1.2.length * 24 ≤ 140737488351232 := Fits.sl hs1
  have hq0 : (x0.2.map (·.2)).length = x0.2.length := List.length_map _
  have hq1 : (x1.2.map (·.2)).length = x1.2.length := List.length_map _
  obtain ⟨us, hus⟩ : ∃ ps : List (List Int), x0.2.map (·.2) = ps := ⟨_, rfl⟩
  obtain ⟨vs, hvs⟩ : ∃ ps : List (List Int), x1.2.map (·.2) = ps := ⟨_, rfl⟩
  rw [hus] at hU zu hq0
  rw [hvs] at hV zv hq1
  generalize x0.1 = u at hU
  generalize x1.1 = v at hV
  have lu := hU.len
  have lv := hV.len
  have h00 : ((0 : Int) != 0) = false := by decide
  obtain ⟨w1, D1, e1, d1, f1, n1⟩ := new8 W
  obtain ⟨w2, D2, d2, c2, g2⟩ := open10 d1 nmV
  have eo : openA [] (-1) false nmV = (0, [], [(nmV, [], 0)], -1, false) := open_new rfl okV (by decide) (by decide)
  rw [eo] at d2 g2
  rcases g2 with ⟨g2, _⟩ | ⟨_, a1, a2, a3, z2, q2, e2, l2, X2, Z2, K2, _⟩
  · exact absurd rfl g2
  obtain ⟨F2, hD2⟩ := chg_fresh c2 f1 n1
  obtain ⟨w3, D3, d3, c3, g3⟩ := open10 d2 nmW
  have eo : openA [(nmV, [], 0)] (-1) false nmW = (0, [], [(nmV, [], 0), (nmW, [], 0)], -1, false) := by
    rw [open_new (by simp [kget_cons, neWV, kget_nil]) okW (by decide) (by decide)]
    simp [kups, putF, neWV]
  simp only at g3
  rw [eo] at d3 g3
  rcases g3 with ⟨g3, _⟩ | ⟨_, b1, b2, b3, z3, q3, e3, l3, X3, Z3, K3, _⟩
  · exact absurd rfl g3
  obtain ⟨F3, hD3⟩ := chg_fresh c3 F2 hD2
  have s2 : WS w2 D2 (W.heap.size + 1) [(nmV, [], 0)] (-1) false a1 a2 a3 nmV 0 := ⟨d2, l2, fun y hy => (X2 y hy).2.2⟩
  have s3 := s2.step d3 c3
  have zz1 := f1.size
  have zz2 := F2.size
  have lt2 := l2.lt
  have W3 : WW W w3 D3 (W.heap.size + 1) [(nmV, [], 0), (nmW, [], 0)] a1 a2 a3 b1 b2 b3 0 0 :=
    ⟨s3, ⟨d3, l3, fun y hy => (X3 y hy).2.2⟩, fun y hy hy2 => by have := lt2 y hy; have := (X3 y hy2).1; omega, hD3, fun y hy => by have := (X2 y hy).1; omega, fun y hy => by have := (X3 y hy).1; omega, F3⟩
  obtain ⟨w4, e4, f4⟩ := awake11 (w := w3)
  have F4 : Fr [] W w4 := (Fr.mono (Fr.app F3 f4) (by have z0_ := Fr.size F3; have z1_ := Fr.size f4; intro y_ hy_ hl_; grind [blkOf]))
  have W4 : WW W w4 D3 (W.heap.size + 1) [(nmV, [], 0), (nmW, [], 0)] a1 a2 a3 b1 b2 b3 0 0 := ⟨W3.s1.fr f4 (by simp), W3.s2.fr f4 (by simp), W3.ap, W3.hD, W3.h1, W3.h2, F4⟩
  have e5 := long12 (hU.fr F4 (by simp)) (by omega)
  have e6 := long12 (hV.fr F4 (by simp)) (by omega)
  have e2' : callF Try.prog 10 #[.pointer (some ⟨W.heap.size + 1, 0, none⟩), .string (⟨#[118]⟩ : ByteArray)] w1 = _ := e2
  have e3' : callF Try.prog 10 #[.pointer (some ⟨W.heap.size + 1, 0, none⟩), .string (⟨#[119]⟩ : ByteArray)] w2 = _ := e3
  obtain ⟨w5, e7, f5⟩ := awake11 (w := w4)
  have F5 : Fr [] W w5 := (Fr.mono (Fr.app F4 f5) (by have z0_ := Fr.size F4; have z1_ := Fr.size f5; intro y_ hy_ hl_; grind [blkOf]))
  cases hlu : longP us with
  | true =>
    rw [hlu] at e5
    refine ⟨w5, g5_call ?_, F5⟩
    unfold g5
    simp only [e1, e2', e3', e4, h00, e5, e7, Option.bind_some, asP_pointer, asB_bool, asI_int, asS_string, asSl_slice, asM_map, asTup0, asTup1, asTup2, asTup3, asTup4, asTup5, getD0, getD1, getD2, getD3, getD4, Bool.not_true, Bool.not_false, Bool.false_eq_true, Bool.true_eq_false, ↓reduceIte, decide_true, decide_false, Option.isNone_some, Option.isNone_none, Option.isSome_some, Option.isSome_none, beq_self_eq_true, bne_self_eq_false, Bool.and_true, Bool.true_and, Bool.and_false, Bool.false_and, not_true_eq_false, not_false_eq_true]
  | false =>
  rw [hlu] at e5
  cases hlv : longP vs with
  | true =>
    rw [hlv] at e6
    refine ⟨w5, g5_call ?_, F5⟩
    unfold g5
    simp only [e1, e2', e3', e4, h00, e5, e6, e7, Option.bind_some, asP_pointer, asB_bool, asI_int, asS_string, asSl_slice, asM_map, asTup0, asTup1, asTup2, asTup3, asTup4, asTup5, getD0, getD1, getD2, getD3, getD4, Bool.not_true, Bool.not_false, Bool.false_eq_true, Bool.true_eq_false, ↓reduceIte, decide_true, decide_false, Option.isNone_some, Option.isNone_none, Option.isSome_some, Option.isSome_none, beq_self_eq_true, bne_self_eq_false, Bool.and_true, Bool.true_and, Bool.and_false, Bool.false_and, not_true_eq_false, not_false_eq_true]
  | false =>
  rw [hlv] at e6
  have hw : IntKind.i64.wrap ((u.2.1 : Int) + (v.2.1 : Int)) = (u.2.1 : Int) + (v.2.1 : Int) := wrap_i64 (by omega) (by omega)
  by_cases hbig : (u.2.1 : Int) + (v.2.1 : Int) > 100
  · refine ⟨w5, g5_call ?_, F5⟩
    unfold g5
    simp only [e1, e2', e3', e4, h00, e5, e6, hw, hbig, e7, Option.bind_some, asP_pointer, asB_bool, asI_int, asS_string, asSl_slice, asM_map, asTup0, asTup1, asTup2, asTup3, asTup4, asTup5, getD0, getD1, getD2, getD3, getD4, Bool.not_true, Bool.not_false, Bool.false_eq_true, Bool.true_eq_false, ↓reduceIte, decide_true, decide_false, Option.isNone_some, Option.isNone_none, Option.isSome_some, Option.isSome_none, beq_self_eq_true, bne_self_eq_false, Bool.and_true, Bool.true_and, Bool.and_false, Bool.false_and, not_true_eq_false, not_false_eq_true]
  have su := longP_false hlu
  have sv := longP_false hlv
  have hl : us.length + vs.length ≤ 100 := by omega
  obtain ⟨e, t, w6, q6, q7⟩ := loopS_rule (b := g5_l37_b u (some ⟨a1, 0, none⟩) v (some ⟨b1, 0, none⟩) (some ⟨W.heap.size + 1, 0, none⟩))
    (I := fun k s x => s = (false, (k : Int)) ∧ AInv W us vs a1 a2 a3 b1 b2 b3 k x)
    (Q := fun e s x => e = .exit 0 ∧ AInv W us vs a1 a2 a3 b1 b2 b3 (max us.length vs.length) x) (n := max us.length vs.length)
    (fun k s x hk ⟨hs', hi⟩ => by
      subst hs'
      obtain ⟨x', k1, k2⟩ := apart_round hU hV zu zv su sv hl hk hi
      exact ⟨.normal, _, x', k1, .inl ⟨rfl, rfl, k2⟩⟩)
    (fun s x ⟨hs', hi⟩ => by
      subst hs'
      have k1 : ¬ ((max us.length vs.length : Nat) : Int) < (u.2.1 : Int) := by omega
      have k2 : ¬ ((max us.length vs.length : Nat) : Int) < (v.2.1 : Int) := by omega
      refine ⟨.exit 0, (false, ((max us.length vs.length : Nat) : Int)), x, ?_, by simp, rfl, hi⟩
      unfold g5_l37_b
      simp only [k1, k2, Option.bind_some, asP_pointer, asB_bool, asI_int, asS_string, asSl_slice, asM_map, asTup0, asTup1, asTup2, asTup3, asTup4, asTup5, getD0, getD1, getD2, getD3, getD4, Bool.not_true, Bool.not_false, Bool.false_eq_true, Bool.true_eq_false, ↓reduceIte, decide_true, decide_false, Option.isNone_some, Option.isNone_none, Option.isSome_some, Option.isSome_none, beq_self_eq_true, bne_self_eq_false, Bool.and_true, Bool.true_and, Bool.and_false, Bool.false_and, not_true_eq_false, not_false_eq_true])
    (Nat.zero_le _) (k := 0) (s := (false, 0)) (w := w4) ⟨rfl, D3, by simpa [encs] using W4⟩
  obtain ⟨rfl, D6, W6⟩ := q7
  rw [List.take_of_length_le (by omega), List.take_of_length_le (by omega)] at W6
  have bus := encs_take_bound su us.length
  have bvs := encs_take_bound sv vs.length
  rw [List.take_length] at bus bvs
  have hU6 := hU.fr W6.fr (by simp)
  have z6 := W6.fr.size
  obtain ⟨q8, w7, e8, L8, f7⟩ := copied25 hU6 (fun y hy => by omega) (by omega) (fun p hp => by have := su p hp; omega)
  have L8' := lst_alive L8.lst'
  have s7 := W6.s2.fr f7 (by simp)
  have lt6 := W6.s2.wl.lt
  obtain ⟨w8, D8, e9, s8, i8⟩ := wrew s7 L8' (fun y hy he => by have := hy.1; have := lt6 b3 (.inr (.inr rfl)); omega) (fun y hy => hy.2) zu (by omega) (by omega) (by decide)
  have hone : kone [(nmV, encs us, 0), (nmW, encs vs, 0)] := by unfold kone; simp [neVW]
  have hkd : kdel [(nmV, encs us, 0), (nmW, encs vs, 0)] (nextN nmW) = [(nmV, encs us, 0), (nmW, encs vs, 0)] := by
    have x1 : ¬ nextN nmW = nmV := by decide
    have x2 : ¬ nextN nmW = nmW := by decide
    simp [kdel, x1, x2]
  have hrc := rew_cases (fuse := -1) (ps := us) hone (n := nmW) (by decide) (by decide) hlu
  have ht : tookN (-1) (encs us).length = (encs us).length := rfl
  have hu2 : used [(nmV, encs us, 0), (nmW, encs vs, 0)] = (encs us).length + (encs vs).length := by simp [used]
  obtain ⟨r, hr⟩ : ∃ r, rewA [(nmV, encs us, 0), (nmW, encs vs, 0)] (-1) false nmW us = r := ⟨_, rfl⟩
  rw [hr] at hrc e9 s8
  have hrr : r.1 = 0 ∧ r.2.2.2 = false ∧ r.2.2.1 = -1 ∧ kget r.2.1 nmW = some (encs us, (encs us).length) ∧ kget r.2.1 nmV = some (encs us, 0) := by
    rcases hrc with ⟨_, _, _, _, _, k⟩ | ⟨_, _, k, _⟩ | ⟨k1, k2, _, k3, k4, k5, _⟩
    · exfalso; rw [hkd, hu2] at k; simp at k; omega
    · omega
    · refine ⟨k1, k2, by rw [k3]; unfold fuseN; rfl, k4, ?_⟩
      rw [k5 nmV neVW (by decide)]; simp [kget_cons]
  obtain ⟨r1, r2, r3, r4, r5⟩ := hrr
  have F7 : Fr [] W w7 := (Fr.mono (Fr.app W6.fr f7) (by have z0_ := Fr.size W6.fr; have z1_ := Fr.size f7; intro y_ hy_ hl_; grind [blkOf]))
  obtain ⟨F8, hD8⟩ := i8.fresh F7 W6.hD W6.h2
  have d8 := s8.dk
  rw [r2, r3] at d8
  obtain ⟨w9, D9, d9, c9, g9⟩ := open10 d8 nmV
  have hirr : ¬ (encs us).length < (encs us).length := Nat.lt_irrefl _
  have eo : openA r.2.1 (-1) false nmV = (0, us, r.2.1, -1, false) := by
    rw [open_has r5, scan_all su]; simp
  rw [eo] at d9 g9
  rcases g9 with ⟨g9, _⟩ | ⟨_, _, _, _, z9, q9, e10, l9, X9, Z9, K9, L9⟩
  · exact absurd rfl g9
  obtain ⟨F9, hD9⟩ := chg_fresh c9 F8 hD8
  simp only at d9 L9 e10
  obtain ⟨w10, D10, d10, c10, g10⟩ := open10 d9 nmW
  have eo : openA r.2.1 (-1) false nmW = (0, us, r.2.1, -1, false) := by
    rw [open_has r4, scan_all su]; simp
  rw [eo] at d10 g10
  rcases g10 with ⟨g10, _⟩ | ⟨_, _, _, _, z10, q10, e11, l10, X10, Z10, K10, L10⟩
  · exact absurd rfl g10
  obtain ⟨F10, hD10⟩ := chg_fresh c10 F9 hD9
  simp only at L10 e11
  have L9' : Lst .u8 w10 (fun y => z9 ≤ y) q9 us := by
    obtain ⟨S, f, hS⟩ := c10.fr
    exact L9.lst'.fr f (fun y hy _ hm => by have := K9 y (hS y hy); omega)
  have hpl : ∀ p ∈ us, p.length < 9223372036854775807 := fun p hp => by have := su p hp; omega
  obtain ⟨w11, e12, f11⟩ := samelist19 L9' (hU.fr F10 (by simp)) (by omega) hpl
  have F11 : Fr [] W w11 := (Fr.mono (Fr.app F10 f11) (by have z0_ := Fr.size F10; have z1_ := Fr.size f11; intro y_ hy_ hl_; grind [blkOf]))
  obtain ⟨w12, e13, f12⟩ := samelist19 (L10.lst'.fr f11 (by simp)) (hU.fr F11 (by simp)) (by omega) hpl
  have hd : decide (us = us) = true := by simp
  have h000 : ((0 : Int) == 0) = true := by decide
  have e10' : callF Try.prog 10 #[.pointer (some ⟨W.heap.size + 1, 0, none⟩), .string (⟨#[118]⟩ : ByteArray)] w8 = _ := e10
  have e11' : callF Try.prog 10 #[.pointer (some ⟨W.heap.size + 1, 0, none⟩), .string (⟨#[119]⟩ : ByteArray)] w9 = _ := e11
  rw [r1] at e9
  refine ⟨w12, g5_call ?_, (Fr.mono (Fr.app F11 f12) (by have z0_ := Fr.size F11; have z1_ := Fr.size f12; intro y_ hy_ hl_; grind [blkOf]))⟩
  unfold g5
  simp only [e1, e2', e3', e4, h00, e5, e6, hw, hbig, g5_l37_x0_of q6, Option.bind_some, asP_pointer, asB_bool, asI_int, asS_string, asSl_slice, asM_map, asTup0, asTup1, asTup2, asTup3, asTup4, asTup5, getD0, getD1, getD2, getD3, getD4, Bool.not_true, Bool.not_false, Bool.false_eq_true, Bool.true_eq_false, ↓reduceIte, decide_true, decide_false, Option.isNone_some, Option.isNone_none, Option.isSome_some, Option.isSome_none, beq_self_eq_true, bne_self_eq_false, Bool.and_true, Bool.true_and, Bool.and_false, Bool.false_and, not_true_eq_false, not_false_eq_true]
  unfold g5_l37_x0
  simp only [e8, e9, h00, e10', e11', h000, e12, e13, hd, Option.bind_some, asP_pointer, asB_bool, asI_int, asS_string, asSl_slice, asM_map, asTup0, asTup1, asTup2, asTup3, asTup4, asTup5, getD0, getD1, getD2, getD3, getD4, Bool.not_true, Bool.not_false, Bool.false_eq_true, Bool.true_eq_false, ↓reduceIte, decide_true, decide_false, Option.isNone_some, Option.isNone_none, Option.isSome_some, Option.isSome_none, beq_self_eq_true, bne_self_eq_false, Bool.and_true, Bool.true_and, Bool.and_false, Bool.false_and, not_true_eq_false, not_false_eq_true]
end Go.Proofs.Ytnflklkjjjlpaaa
