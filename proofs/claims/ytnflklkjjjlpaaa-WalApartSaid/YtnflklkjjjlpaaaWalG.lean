/-
  WalG: lemmas on what Go functions of this seat come to (for whatever arguments, as each says). No condition but those that stand in each lemma.
-/
import Derived.Test.YtnflklkjjjlpaaaWalE
namespace Go.Proofs.Ytnflklkjjjlpaaa
open Go Go.Ev Go.Crc
set_option maxRecDepth 100000
set_option linter.unusedVariables false
set_option linter.unusedSimpArgs false

theorem own_lt {w : World} {e : TypeId} {n : Nat} {v : Option Addr × Nat × Nat} {xs : List Value} (h : Own w e n v xs) : ∀ y ∈ blkOf v, y < w.heap.size := by
  intro y hy
  rcases h.at_ with ⟨h1, _⟩ | ⟨g, off, cur, h1, h2, _⟩
  · simp [blkOf, h1] at hy
  · simp only [blkOf, h1] at hy
    have : y = g := by simpa using hy
    subst this
    exact (Array.getElem?_eq_some_iff.mp h2).1

/-- what is new stays new -/
theorem Did.fresh {W w w' : World} {D D' : Nat → Prop} {wb fb tb : Nat} (h : Did D wb fb tb w w' D') (hF : Fr [] W w) (hD : ∀ y, D y → W.heap.size ≤ y) (hX : ∀ y, Xw wb fb tb y → W.heap.size ≤ y) : Fr [] W w' ∧ ∀ y, D' y → W.heap.size ≤ y := by
  obtain ⟨S, f, hS⟩ := h.fr
  have n := h.new
  have z := hF.size
  refine ⟨(Fr.mono (Fr.app hF f) (by have z0_ := Fr.size hF; have z1_ := Fr.size f; intro y_ hy_ hl_; grind [blkOf])), fun y hy => ?_⟩
  rcases n y hy with hh | hh
  · exact hD y hh
  · omega
theorem chg_fresh {W w w' : World} {D D' : Nat → Prop} (c : Chg D w w' D') (hF : Fr [] W w) (hD : ∀ y, D y → W.heap.size ≤ y) : Fr [] W w' ∧ ∀ y, D' y → W.heap.size ≤ y := by
  obtain ⟨S, f, hS⟩ := c.fr
  have n := c.new
  have z := hF.size
  refine ⟨(Fr.mono (Fr.app hF f) (by have z0_ := Fr.size hF; have z1_ := Fr.size f; intro y_ hy_ hl_; grind [blkOf])), fun y hy => ?_⟩
  rcases n y hy with hh | hh
  · exact hD y hh
  · omega

theorem u8s {ps : List (List Int)} (h : ∀ p ∈ ps, ∀ z ∈ p, IntKind.u8.min ≤ z ∧ z ≤ IntKind.u8.max) : ∀ p ∈ ps, Zs p := fun p hp z hz => u8_range (h p hp z hz)

theorem longP_false {ps : List (List Int)} (h : longP ps = false) : ∀ p ∈ ps, p.length ≤ 4096 := by
  unfold longP at h
  simp only [decide_eq_false_iff_not] at h
  intro p hp
  rcases Nat.lt_or_ge 4096 p.length with h1 | h1
  · exact absurd ⟨p, hp, h1⟩ h
  · exact h1

/-- Append to the only file -/
theorem wapp_one {d p : List Int} {s : Nat} (hp : p.length ≤ 4096) (hd : d.length ≤ 4000000) : wappA [(nmW, d, s)] (-1) false nmW p = (0, [(nmW, d ++ enc p, s)], -1, false) := by
  have hl := enc_length p
  unfold wappA
  rw [if_neg (by omega)]
  rcases app_cases (A := [(nmW, d, s)]) (fuse := -1) (p := enc p) okW with ⟨h1, h2⟩ | ⟨h1, h2⟩
  · exfalso
    have hu : used [(nmW, d, s)] = d.length := by simp [used]
    have hk : kget [(nmW, d, s)] nmW = some (d, s) := by simp [kget_cons]
    rw [hu, hk] at h2
    simp at h2; omega
  · rw [h1]
    have ht : tookN (-1) (enc p).length = (enc p).length := rfl
    rw [ht]
    simp [kups, putF, fuseN]

theorem scan_all {ps : List (List Int)} (h : ∀ p ∈ ps, p.length ≤ 4096) : scan (encs ps) = (ps, (encs ps).length, 0) := by
  have := scan_encs (rest := []) h
  rw [List.append_nil, scan_nil (bs := []) rfl] at this
  rw [this]; simp

theorem le4_un4 {a b c d : Int} (ha : 0 ≤ a ∧ a < 256) (hb : 0 ≤ b ∧ b < 256) (hc : 0 ≤ c ∧ c < 256) (hd : 0 ≤ d ∧ d < 256) : le4 (un4 a b c d) = [a, b, c, d] := by
  unfold le4 un4
  simp only [List.cons.injEq, and_true]
  omega

/-- what is decoded was encoded -/
theorem dec_inv {bs : List Int} (hz : Zs bs) (h : (dec bs).2.2 = 0) : bs.take (dec bs).2.1 = enc (dec bs).1 ∧ (dec bs).1.length ≤ 4096 := by
  have hl := dec_ok h
  match bs, hz with
  | a0 :: a1 :: a2 :: a3 :: a4 :: a5 :: a6 :: a7 :: r, hz =>
    have z : ∀ x ∈ [a0, a1, a2, a3, a4, a5, a6, a7], 0 ≤ x ∧ x < 256 := fun x hx => hz x (List.mem_append_left r hx)
    have n0 : 0 ≤ un4 a0 a1 a2 a3 := by
      have := z a0 (by simp); have := z a1 (by simp); have := z a2 (by simp); have := z a3 (by simp)
      unfold un4; omega
    have l1 := le4_un4 (z a0 (by simp)) (z a1 (by simp)) (z a2 (by simp)) (z a3 (by simp))
    have l2 := le4_un4 (z a4 (by simp)) (z a5 (by simp)) (z a6 (by simp)) (z a7 (by simp))
    unfold dec at h ⊢
    simp only [List.length_cons, List.getD_cons_zero, List.getD_cons_succ, List.drop_succ_cons, List.drop_zero] at h ⊢
    rw [if_neg (by omega)] at h ⊢
    by_cases g1 : un4 a0 a1 a2 a3 > 4096
    · rw [if_pos g1] at h; exact absurd h (by decide)
    rw [if_neg g1] at h ⊢
    by_cases g2 : ((r.length + 1 + 1 + 1 + 1 + 1 + 1 + 1 + 1 : Nat) : Int) - 8 < un4 a0 a1 a2 a3
    · rw [if_pos g2] at h; exact absurd h (by decide)
    rw [if_neg g2] at h ⊢
    by_cases g3 : more 0 (r.take (un4 a0 a1 a2 a3).toNat) = un4 a4 a5 a6 a7
    · rw [if_pos g3]
      have hlen : (r.take (un4 a0 a1 a2 a3).toNat).length = (un4 a0 a1 a2 a3).toNat := by rw [List.length_take]; omega
      have hcast : (((r.take (un4 a0 a1 a2 a3).toNat).length : Nat) : Int) = un4 a0 a1 a2 a3 := by rw [hlen]; omega
      refine ⟨?_, by simp only; omega⟩
      simp only
      unfold enc
      rw [hcast, g3, l1, l2, Nat.add_comm 8]
      simp
    · rw [if_neg g3] at h; exact absurd h (by decide)
  | [], _ | [_], _ | [_, _], _ | [_, _, _], _ | [_, _, _, _], _ | [_, _, _, _, _], _ | [_, _, _, _, _, _], _ | [_, _, _, _, _, _, _], _ => simp at hl; omega

theorem scan_inv (bs : List Int) (hz : Zs bs) : bs.take (scan bs).2.1 = encs (scan bs).1 ∧ ∀ p ∈ (scan bs).1, p.length ≤ 4096 := by
  by_cases h0 : bs.length = 0
  · rw [scan_nil h0]; simp [encs]
  · by_cases h : (dec bs).2.2 = 0
    · have hl := dec_ok h
      obtain ⟨i1, i2⟩ := dec_inv hz h
      obtain ⟨j1, j2⟩ := scan_inv (bs.drop (dec bs).2.1) (fun z hm => hz z (List.mem_of_mem_drop hm))
      rw [scan_ok h0 h]
      refine ⟨?_, ?_⟩
      · simp only
        rw [encs_cons, ← j1, ← i1, List.take_add]
      · intro p hp
        simp only [List.mem_cons] at hp
        rcases hp with hp | hp
        · subst hp; exact i2
        · exact j2 p hp
    · rw [scan_bad h0 h]; simp [encs]
termination_by bs.length
decreasing_by (simp only [List.length_drop]; have := dec_ok h; omega)

theorem lst_alive {k : IntKind} {w : World} {B : Nat → Prop} {v : Option Addr × Nat × Nat} {ps : List (List Int)} (h : Lst k w B v ps) : Lst k w (fun y => B y ∧ y < w.heap.size) v ps := by
  have key : ∀ {q : Option Addr × Nat × Nat} {b off : Nat} {y : Nat}, q.1 = some ⟨b, off, none⟩ → y ∈ blkOf q → y = b := by
    intro q b off y h1 hy
    simpa [blkOf, h1] using hy
  obtain ⟨qs, h1, h2, h3, h4⟩ := h
  refine ⟨qs, h1, h2, fun h0 y hy => ⟨h3 h0 y hy, ?_⟩, fun i hi hi' => ?_⟩
  · obtain ⟨b, off, g1, g2, _⟩ := h1.2 (by simp; omega)
    have := key g1 hy; omega
  · obtain ⟨g1, g2, g3⟩ := h4 i hi hi'
    refine ⟨g1, g2, fun h0 y hy => ⟨g3 h0 y hy, ?_⟩⟩
    obtain ⟨b, off, e1, e2, _⟩ := g1.2 (by have := g1.1; omega)
    have := key e1 hy; omega
end Go.Proofs.Ytnflklkjjjlpaaa
