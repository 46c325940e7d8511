/-
  TxnPlays: lemmas on what Go functions of this seat come to (for whatever arguments, as each says). No condition but those that stand in each lemma.
-/
import Derived.Test.YtlcojbodcbjkaaaTxnMd
namespace Go.Proofs.Ytlcojbodcbjkaaa
open Go Go.Ev
set_option maxRecDepth 100000
set_option linter.unusedVariables false
set_option linter.unusedSimpArgs false

/-- the parts of the record within an Op -/
def pts (x : OT.Val) : List Int := x.2.2.2.2.2.2.2.2.1.2.2.2.2.2.1.2

theorem op_at2 {w : World} {x0 : (Ty.slice OT).Val} (h0 : (Ty.slice OT).At w [.slice x0.1.1 x0.1.2.1 x0.1.2.2] x0) {k : Nat} (hk : k < x0.2.length) :
    (∃ a, idxA x0.1.1 x0.1.2.1 15 (k : Int) = some a ∧ ldN w a 0 15 = some (toO x0.2[k]).cs) ∧ SlC w 1 (toO x0.2[k]).rq (intsV' (pts x0.2[k])) := by
  refine ⟨op_at h0 hk, ?_⟩
  obtain ⟨a, cs, i1, g1, g2, g3⟩ := slice_get h0 hk
  generalize x0.2[k] = x at *
  obtain ⟨c1, d1, rfl, _, ⟨rfl, _⟩, c2, d2, rfl, _, ⟨rfl, _⟩, c3, d3, rfl, _, ⟨rfl, _⟩, c4, d4, rfl, _, ⟨rfl, _⟩, c5, d5, rfl, _, ⟨rfl, _⟩, c6, d6, rfl, _, ⟨rfl, _⟩, c7, d7, rfl, _, rfl, c8, d8, rfl, _, rfl, c9, d9, rfl, _, ⟨e1, g1, rfl, _, ⟨rfl, _⟩, e2, g2, rfl, _, ⟨rfl, _⟩, e3, g3, rfl, _, ⟨rfl, _⟩, e4, g4, rfl, _, ⟨rfl, _⟩, e5, g5, rfl, _, ⟨rfl, _⟩, e6, g6, rfl, _, hs, e7, g7, rfl, _, rfl, rfl⟩, rfl⟩ := g3
  obtain ⟨hs1, hs2⟩ := hs
  have h2 : (Ty.slice (.int .i64)).At w [.slice (toO x).rq.1 (toO x).rq.2.1 (toO x).rq.2.2] ((toO x).rq, pts x) := ⟨rfl, hs2⟩
  exact (slI_of_at h2).1.slC

theorem bulk_sl (q : Sh) (l : List Int) : (Ty.slice (.int .i64)).bulk (q, l) = l.length + 1 := by
  have : ∀ l : List Int, (l.map (Ty.int .i64).bulk).sum = l.length := by
    intro l
    induction l with
    | nil => rfl
    | cons a l ih =>
      have h1 : (Ty.int .i64).bulk a = 1 := rfl
      rw [List.map_cons, List.sum_cons, ih, List.length_cons, h1]; omega
  have h := this l
  show (l.map (Ty.int .i64).bulk).sum + 1 = l.length + 1
  rw [h]
theorem bulk_op (x : OT.Val) : (pts x).length + 1 ≤ OT.bulk x := by
  rw [← bulk_sl (toO x).rq (pts x)]
  have : OT.bulk x = (Ty.int .i64).bulk x.1 + ((Ty.int .i64).bulk x.2.1 + ((Ty.int .i64).bulk x.2.2.1 + ((Ty.int .i64).bulk x.2.2.2.1 + ((Ty.int .i64).bulk x.2.2.2.2.1 + ((Ty.int .u64).bulk x.2.2.2.2.2.1 + (Ty.bool.bulk x.2.2.2.2.2.2.1 + (Ty.bool.bulk x.2.2.2.2.2.2.2.1 + (((Ty.int .i64).bulk x.2.2.2.2.2.2.2.2.1.1 + ((Ty.int .i64).bulk x.2.2.2.2.2.2.2.2.1.2.1 + ((Ty.int .i64).bulk x.2.2.2.2.2.2.2.2.1.2.2.1 + ((Ty.int .u64).bulk x.2.2.2.2.2.2.2.2.1.2.2.2.1 + ((Ty.int .i64).bulk x.2.2.2.2.2.2.2.2.1.2.2.2.2.1 + ((Ty.slice (.int .i64)).bulk ((toO x).rq, pts x) + (Ty.bool.bulk x.2.2.2.2.2.2.2.2.1.2.2.2.2.2.2.1 + 0))))))) + 0)))))))) := rfl
  omega

/-- the law's loop keeps this -/
structure TI2 (W x : World) (tb : Nat) (ql : Sh) (S n : Nat) : Prop where
  ex : ∃ D DL A L, PS W x tb D DL A ql L ∧ sumP (recs L) ≤ S ∧ L.length ≤ n

theorem TxnPlays_main0 (W : World) (x0 : (Ty.slice OT).Val) (h0 : (Ty.slice OT).At W [.slice x0.1.1 x0.1.2.1 x0.1.2.2] x0) (hb : (Ty.slice OT).bulk x0 ≤ 1048576) :
    ∃ w', callF Try.prog 3 #[.slice x0.1.1 x0.1.2.1 x0.1.2.2] W = some (.bool true, w') ∧ Fr [] W w' := by
  have hml : maxLen = 9223372036854775807 := by decide
  have hl1 : x0.2.length = x0.1.2.1 := h0.2.1
  have hl2 : x0.1.2.1 ≤ x0.1.2.2 := h0.2.2.1
  have hl3 : x0.1.2.2 ≤ maxLen := h0.2.2.2.1
  -- what has come in so far
  obtain ⟨wt, hwt⟩ : ∃ wt : Nat → Nat, wt = fun k => ((x0.2.take k).map OT.bulk).sum := ⟨_, rfl⟩
  have wts : ∀ k (hk : k < x0.2.length), wt (k + 1) = wt k + OT.bulk x0.2[k] := by
    intro k hk
    rw [hwt]
    simp only [List.take_succ_eq_append_getElem hk, List.map_append, List.sum_append]
    simp
  have wtl : ∀ k, k ≤ x0.2.length → wt k ≤ 1048576 ∧ k ≤ wt k := by
    have mono : ∀ d k, k + d = x0.2.length → wt k ≤ wt x0.2.length := by
      intro d
      induction d with
      | zero => intro k hk; rw [← hk]; exact Nat.le_refl _
      | succ d ih =>
        intro k hk
        have h1 := ih (k + 1) (by omega)
        have h2 := wts k (by omega)
        omega
    intro k hk
    have h1 := mono (x0.2.length - k) k (by omega)
    have h2 : wt x0.2.length = (x0.2.map OT.bulk).sum := by rw [hwt]; simp only [List.take_length]
    have h3 : (x0.2.map OT.bulk).sum + 1 ≤ 1048576 := hb
    refine ⟨by omega, ?_⟩
    clear h1 h2 h3
    induction k with
    | zero => omega
    | succ k ih =>
      have := ih (by omega)
      have h2 := wts k (by omega)
      have := bulk_op (x0.2[k]'(by omega))
      omega
  have wt0 : wt 0 = 0 := by rw [hwt]; rfl
  obtain ⟨w1, D1, e1, t1, f1, n1⟩ := new10 W
  obtain ⟨w2, e2, f2⟩ := awake11 w1
  have P0 : PS W w2 (W.heap.size + 1) D1 (fun _ => False) [] (none, 0, 0) [] := ⟨t1.fr f2 (by simp), ⟨Own.nil _ _ _, by simp, by simp [blkOf], by simp, by simp, by simp⟩, fun n => rfl, by simp, (Fr.mono (Fr.app f1 f2) (by have z0_ := Fr.size f1; have z1_ := Fr.size f2; intro y_ hy_ hl_; grind [blkOf])), n1, by simp, by simp [recs, sumP]⟩
  obtain ⟨t, w5, g1, q5, rfl, hI⟩ := loopS_countX 0 (b := g3_l6_b x0.1 (some ⟨W.heap.size + 1, 0, none⟩)) (I := fun k s x => ∃ ql : Sh, s = (false, ql, (k : Int)) ∧ TI2 W x (W.heap.size + 1) ql (wt k) k) (n := x0.2.length)
    (fun k s x hk ⟨ql, hs, hI⟩ => by
      subst hs
      obtain ⟨D, DL, A, L, P, hsum, hlen⟩ := hI.ex
      have hold : Old W x := (Old.refl W).fr P.fr (by simp)
      obtain ⟨⟨a, i1, l1⟩, slo⟩ := op_at2 (at_old hold _ _ _ h0) hk
      have slo0 := (op_at2 h0 hk).2
      have b1 := wts k hk
      have b2 := wtl (k + 1) (by omega)
      have b3 := bulk_op x0.2[k]
      have hkk : (k : Int) < (x0.1.2.1 : Int) := by omega
      have hu : x0.1.2.1 ≤ 9223372036854775807 := by omega
      have go : ∀ (s' : Nat), s' ≤ (pts x0.2[k]).length ∨ s' ≤ 1 → (∃ x' D' DL' A' ql' L', g3_l6_b x0.1 (some ⟨W.heap.size + 1, 0, none⟩) (false, ql, (k : Int)) x = some (.normal, (false, ql', ((k + 1 : Nat) : Int)), x') ∧ PS W x' (W.heap.size + 1) D' DL' A' ql' L' ∧ sumP (recs L') ≤ sumP (recs L) + s' ∧ L'.length ≤ L.length + 1) →
          ∃ s2 w2, g3_l6_b x0.1 (some ⟨W.heap.size + 1, 0, none⟩) (false, ql, (k : Int)) x = some (.normal, s2, w2) ∧ ∃ ql : Sh, s2 = (false, ql, ((k + 1 : Nat) : Int)) ∧ TI2 W w2 (W.heap.size + 1) ql (wt (k + 1)) (k + 1) := by
        rintro s' hs' ⟨x', D', DL', A', ql', L', e, P', r1, r2⟩
        exact ⟨_, x', e, ql', rfl, ⟨D', DL', A', L', P', by omega, by omega⟩⟩
      by_cases k0 : (toO x0.2[k]).k = 0
      · exact go _ (.inl (Nat.le_refl _)) (op0 P _ k0 slo (fun hp y hy => slo0.lt (by simpa using hp) y hy) hkk hu i1 l1 (by omega) (by omega))
      by_cases k1 : (toO x0.2[k]).k = 1
      · exact go 1 (.inr (Nat.le_refl _)) (op1 P _ k1 hkk hu i1 l1 (by omega) (by omega))
      by_cases k2 : (toO x0.2[k]).k = 2
      · exact go 1 (.inr (Nat.le_refl _)) (op2 P _ k2 hkk hu i1 l1 (by omega) (by omega))
      exact go 1 (.inr (Nat.le_refl _)) (op3 P _ ⟨k0, k1, k2⟩ hkk hu i1 l1 (by omega) (by omega)))
    (fun s x ⟨ql, hs, _⟩ => by
      subst hs
      unfold g3_l6_b
      have : decide ((x0.2.length : Int) < (x0.1.2.1 : Int)) = false := by simp; omega
      simp only [this, Bool.false_eq_true, if_false]) (k := 0) (s := (false, (none, 0, 0), 0)) (w := w2) (Nat.zero_le _) ⟨(none, 0, 0), rfl, ⟨D1, fun _ => False, [], [], P0, by simp [recs, sumP], by simp⟩⟩
  obtain ⟨D, DL, A, L, P, _⟩ := hI.ex
  refine ⟨w5, g3_call ?_, P.fr⟩
  unfold g3
  simp only [e1, e2, obs, asP_pointer, asB_bool, asI_int, asS_string, asSl_slice, asM_map, asTup0, asTup1, asTup2, asTup3, asTup4, asTup5, asTup6, asTup7, asTup8, asTup9, asAgg2, asAgg3, asAgg4, asAgg5, asAgg6, asAgg7, asAgg8, asAgg9, asAgg12, getD0, getD1, getD2, getD3, getD4, getD5, getD6, getD7, getD8, getD9, getD10, getD11, getD12, getD13, getD14, getD15, getD16, getD17, getD18, getD19, Bool.not_true, Bool.not_false, Bool.false_eq_true, Bool.true_eq_false, ↓reduceIte, decide_true, decide_false, Option.isNone_some, Option.isNone_none, Option.isSome_some, Option.isSome_none, beq_self_eq_true, bne_self_eq_false, Bool.and_true, Bool.true_and, Bool.and_false, Bool.false_and, not_true_eq_false, not_false_eq_true]
  rw [g3_l6_x0_of g1, g3_l6_x0]

theorem TxnPlays_main (W : World) (x0 : (Ty.slice (.cons (.int .i64) (.cons (.int .i64) (.cons (.int .i64) (.cons (.int .i64) (.cons (.int .i64) (.cons (.int .u64) (.cons .bool (.cons .bool (.cons (.cons (.int .i64) (.cons (.int .i64) (.cons (.int .i64) (.cons (.int .u64) (.cons (.int .i64) (.cons (.slice (.int .i64)) (.cons .bool .nil))))))) .nil)))))))))).Val) (h0 : (Ty.slice (.cons (.int .i64) (.cons (.int .i64) (.cons (.int .i64) (.cons (.int .i64) (.cons (.int .i64) (.cons (.int .u64) (.cons .bool (.cons .bool (.cons (.cons (.int .i64) (.cons (.int .i64) (.cons (.int .i64) (.cons (.int .u64) (.cons (.int .i64) (.cons (.slice (.int .i64)) (.cons .bool .nil))))))) .nil)))))))))).At W [.slice x0.1.1 x0.1.2.1 x0.1.2.2] x0) (hb : (Ty.slice (.cons (.int .i64) (.cons (.int .i64) (.cons (.int .i64) (.cons (.int .i64) (.cons (.int .i64) (.cons (.int .u64) (.cons .bool (.cons .bool (.cons (.cons (.int .i64) (.cons (.int .i64) (.cons (.int .i64) (.cons (.int .u64) (.cons (.int .i64) (.cons (.slice (.int .i64)) (.cons .bool .nil))))))) .nil)))))))))).bulk x0 ≤ 1048576) :
    ∃ w', callF Try.prog 3 #[.slice x0.1.1 x0.1.2.1 x0.1.2.2] W = some (.bool true, w') ∧ Fr [] W w' := TxnPlays_main0 W x0 h0 hb
end Go.Proofs.Ytlcojbodcbjkaaa
