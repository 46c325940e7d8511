/-
  ProdR: lemmas on what Go functions of this seat come to (for whatever arguments, as each says). No condition but those that stand in each lemma.
-/
import Derived.Test.YtliakpomlkgpnaaProdQ
import Derived.Test.YtliakpomlkgpnaaProdM
import Derived.Test.YtliakpomlkgpnaaProdL5
namespace Go.Proofs.Ytliakpomlkgpnaa
open Go Go.Ev
set_option maxRecDepth 100000
set_option linter.unusedVariables false
set_option linter.unusedSimpArgs false

theorem sum_mem_le {α : Type} (f : α → Nat) : ∀ {l : List α} {x : α}, x ∈ l → f x ≤ (l.map f).sum
  | a :: l, x, h => by
    rcases List.mem_cons.mp h with h | h
    · subst h; simp
    · have := sum_mem_le f h; simp only [List.map_cons, List.sum_cons]; omega
theorem len_bulk (f : BT.Val → Nat) (h : ∀ x, 1 ≤ f x) (l : List BT.Val) : l.length ≤ (l.map f).sum := by
  induction l with
  | nil => simp
  | cons a l ih => have := h a; simp only [List.map_cons, List.sum_cons, List.length_cons]; omega
theorem toB_len (x : BT.Val) : (toB x).vs.length + 8 ≤ BT.bulk x := by
  have h1 : BT.bulk x = 1 + (1 + (1 + (1 + (1 + (1 + (1 + (1 + ((Ty.slice (.slice (.int .u8))).bulk x.2.2.2.2.2.2.2.2.1 + 0)))))))) := rfl
  have h2 := bulk_list (k := .u8) x.2.2.2.2.2.2.2.2.1
  have h3 : ∀ us : List (List Int), us.length ≤ (us.map fun p => p.length + 1).sum := by
    intro us
    induction us with
    | nil => simp
    | cons p l ih => simp only [List.map_cons, List.sum_cons, List.length_cons]; omega
  have h4 := h3 (toB x).vs
  have h5 : (Ty.slice (.slice (.int .u8))).bulk x.2.2.2.2.2.2.2.2.1 = ((toB x).vs.map fun p => p.length + 1).sum + 1 := h2
  omega

theorem toB_fits {y : BT.Val} (h : Ty.Fits BT y) : (toB y).vs.length ≤ 5864062014634 := by
  have h2 : y.2.2.2.2.2.2.2.2.1.2.length * 24 ≤ 140737488351232 := h.2.2.2.2.2.2.2.2.1.1
  show (y.2.2.2.2.2.2.2.2.1.2.map (·.2)).length ≤ _
  rw [List.length_map]; omega
theorem fits_vs {x0 : (Ty.slice BT).Val} (hs : Ty.Fits (.slice BT) x0) {y : BT.Val} (hy : y ∈ x0.2) : (toB y).vs.length ≤ 5864062014634 := toB_fits (hs.2 y hy)
theorem fits_len {x0 : (Ty.slice BT).Val} (hs : Ty.Fits (.slice BT) x0) : x0.2.length ≤ 1954687338211 := by
  have : x0.2.length * 72 ≤ 140737488351232 := Fits.sl hs
  omega

theorem laid9 {W w : World} {x0 : (Ty.slice BT).Val} (h0 : (Ty.slice BT).At W [.slice x0.1.1 x0.1.2.1 x0.1.2.2] x0) (hs : Ty.Fits (.slice BT) x0) (hf : Fr [] W w) :
    ∃ q w' D, callF Try.prog 9 #[.slice x0.1.1 x0.1.2.1 x0.1.2.2] w = some (.tuple #[.pointer (some ⟨w.heap.size + 1, 0, none⟩), .slice q.1 q.2.1 q.2.2], w') ∧ LyOk W w' D (w.heap.size + 1) (lay (x0.2.map toB)) q x0.2.length := by
  have hll := h0.2.1
  have hn := fits_len hs
  obtain ⟨w1, D1, e1, t1, f1, n1⟩ := new17 w
  have FW1 : Fr [] W w1 := (Fr.mono (Fr.app hf f1) (by have z0_ := Fr.size hf; have z1_ := Fr.size f1; intro y_ hy_ hl_; grind [blkOf]))
  have zW := hf.size
  obtain ⟨e, t, w2, g1, rfl, q, D, rfl, hL⟩ := loopS_rule (b := g9_l4_b x0.1 (some ⟨w.heap.size + 1, 0, none⟩)) (I := fun k s x => ∃ q D, s = (q, ((x0.2.map toB).take k |> lay).2.2.2, (k : Int)) ∧ LyOk W x D (w.heap.size + 1) (lay ((x0.2.map toB).take k)) q k)
    (Q := fun e s x => e = .exit 0 ∧ ∃ q D, s = (q, (lay (x0.2.map toB)).2.2.2, ((x0.2.length : Nat) : Int)) ∧ LyOk W x D (w.heap.size + 1) (lay (x0.2.map toB)) q x0.2.length) (n := x0.2.length)
    (fun k s x hk ⟨q, D, hst0, hi⟩ => by
      subst hst0
      have hold : Old W x := (Old.refl W).fr hi.fr (by simp)
      obtain ⟨a, cs, i1, g1, g2, g3⟩ := slice_get (at_old hold _ _ _ h0) hk
      obtain ⟨_, _, _, _, _, g3W⟩ := slice_get h0 hk
      have hbk := fits_vs hs (List.getElem_mem hk)
      obtain ⟨ec, _⟩ := toB_at g3 hbk
      obtain ⟨_, okW⟩ := toB_at g3W hbk
      have l1 : ldN x a 0 9 = some (toB x0.2[k]).cs := by rw [← ec]; exact g2.ldN (n := 9) (by rw [ec]; rfl)
      have esz : Ty.size BT = 9 := rfl
      rw [esz] at i1
      obtain ⟨q', x', D', e, hL⟩ := lay_round hi (by omega) (by omega) okW i1 l1
      have hst : lay ((x0.2.map toB).take (k + 1)) = layStep (lay ((x0.2.map toB).take k)) (toB x0.2[k]) := by
        have hk' : k < (x0.2.map toB).length := by simpa using hk
        unfold lay
        rw [List.take_succ_eq_append_getElem hk', List.foldl_append]
        simp
      refine ⟨.normal, _, x', e, .inl ⟨rfl, q', D', ?_, ?_⟩⟩
      · show _ = (q', (lay ((x0.2.map toB).take (k + 1))).2.2.2, _)
        rw [hst]
      · rw [hst]; exact hL)
    (fun s x ⟨q, D, hst0, hi⟩ => by
      subst hst0
      have ht : (x0.2.map toB).take x0.2.length = x0.2.map toB := List.take_of_length_le (by simp)
      have hc : ¬ ((x0.2.length : Nat) : Int) < (x0.1.2.1 : Int) := by omega
      simp only [ht] at hi
      refine ⟨.exit 0, (q, (lay (x0.2.map toB)).2.2.2, ((x0.2.length : Nat) : Int)), x, ?_, by simp, rfl, q, D, rfl, hi⟩
      simp only [ht]
      unfold g9_l4_b
      simp only [hc, obs, asP_pointer, asB_bool, asI_int, asS_string, asSl_slice, asM_map, asTup0, asTup1, asTup2, asTup3, asTup4, asTup5, asTup6, asTup7, asTup8, asTup9, getD0, getD1, getD2, getD3, getD4, getD5, getD6, getD7, getD8, getD9, getD10, getD11, Bool.not_true, Bool.not_false, Bool.false_eq_true, Bool.true_eq_false, ↓reduceIte, decide_true, decide_false, Option.isNone_some, Option.isNone_none, Option.isSome_some, Option.isSome_none, beq_self_eq_true, bne_self_eq_false, Bool.and_true, Bool.true_and, Bool.and_false, Bool.false_and, not_true_eq_false, not_false_eq_true])
    (Nat.zero_le _) (k := 0) (s := ((none, 0, 0), 0, 0)) (w := w1) ⟨(none, 0, 0), D1, rfl, ⟨t1, Own.nil _ _ _, FW1, fun y hy => by have := n1 y hy; omega, by simp [blkOf], by intro v hv; simp [lay] at hv, by simp [lay], by simp [lay], by simp [lay]⟩⟩
  refine ⟨q, w2, D, g9_call ?_, hL⟩
  unfold g9
  simp only [e1, g9_l4_x0_of g1, g9_l4_x0, obs, asP_pointer, asB_bool, asI_int, asS_string, asSl_slice, asM_map, asTup0, asTup1, asTup2, asTup3, asTup4, asTup5, asTup6, asTup7, asTup8, asTup9, getD0, getD1, getD2, getD3, getD4, getD5, getD6, getD7, getD8, getD9, getD10, getD11, Bool.not_true, Bool.not_false, Bool.false_eq_true, Bool.true_eq_false, ↓reduceIte, decide_true, decide_false, Option.isNone_some, Option.isNone_none, Option.isSome_some, Option.isSome_none, beq_self_eq_true, bne_self_eq_false, Bool.and_true, Bool.true_and, Bool.and_false, Bool.false_and, not_true_eq_false, not_false_eq_true]
end Go.Proofs.Ytliakpomlkgpnaa
