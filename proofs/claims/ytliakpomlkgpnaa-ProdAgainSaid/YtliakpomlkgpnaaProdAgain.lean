/-
  ProdAgain: lemmas on what Go functions of this seat come to (for whatever arguments, as each says). No condition but those that stand in each lemma.
-/
import Derived.Test.YtliakpomlkgpnaaProdU
namespace Go.Proofs.Ytliakpomlkgpnaa
open Go Go.Ev
set_option maxRecDepth 100000
set_option linter.unusedVariables false
set_option linter.unusedSimpArgs false

theorem ProdAgain_main (W : World) (x0 : (Ty.slice (.cons (.int .i64) (.cons (.int .i64) (.cons (.int .u64) (.cons (.int .i64) (.cons (.int .i64) (.cons .bool (.cons .bool (.cons .bool (.cons (.slice (.slice (.int .u8))) .nil)))))))))).Val) (h0 : (Ty.slice (.cons (.int .i64) (.cons (.int .i64) (.cons (.int .u64) (.cons (.int .i64) (.cons (.int .i64) (.cons .bool (.cons .bool (.cons .bool (.cons (.slice (.slice (.int .u8))) .nil)))))))))).At W [.slice x0.1.1 x0.1.2.1 x0.1.2.2] x0) (hs0 : Ty.Fits (.slice (.cons (.int .i64) (.cons (.int .i64) (.cons (.int .u64) (.cons (.int .i64) (.cons (.int .i64) (.cons .bool (.cons .bool (.cons .bool (.cons (.slice (.slice (.int .u8))) .nil)))))))))) x0) :
    ∃ w', callF Try.prog 4 #[.slice x0.1.1 x0.1.2.1 x0.1.2.2] W = some (.bool true, w') ∧ Fr [] W w' := by
  obtain ⟨w1, e1, f1⟩ := awake8 W
  obtain ⟨q, w2, D, e2, hL⟩ := laid9 h0 hs0 f1
  obtain ⟨hok, hxl⟩ := args_ok h0 hs0
  have hN : Lasts (lay (x0.2.map toB)).1 (lay (x0.2.map toB)).2.2.1 := lay_lasts (fun b hb' => (hok b hb').len) (by simp; omega)
  have hmem : ∀ c ∈ (lay (x0.2.map toB)).2.2.1, BOk W c ∧ c.vs.length ≤ 5864062014634 := by
    intro c hc
    refine ⟨lay_ok hok hc, ?_⟩
    obtain ⟨b, hb', a, _, rfl⟩ := lay_mem hc
    obtain ⟨y, hy, rfl⟩ := List.mem_map.mp hb'
    exact fits_vs hs0 hy
  have hll := hL.log
  obtain ⟨s, hs⟩ : ∃ s, lay (x0.2.map toB) = s := ⟨_, rfl⟩
  rw [hs] at hL hN hll hmem
  have hlen : s.2.2.1.length < 9223372036854775806 := by omega
  have hq0 := hL.own.len
  rw [logCs_len] at hq0
  have hfr := hL.fr
  obtain ⟨t, w3, g1, rfl, fr⟩ := loopS_countX 0 (b := g4_l8_b q (some ⟨w1.heap.size + 1, 0, none⟩)) (I := fun k s' w => s' = (false, (k : Int)) ∧ Fr [] w2 w) (n := s.2.2.1.length)
    (fun k s' w hk ⟨hs', hf⟩ => by
      subst hs'
      have hmk := hmem s.2.2.1[k] (List.getElem_mem hk)
      have FW : Fr [] W w := (Fr.mono (Fr.app hfr hf) (by have z0_ := Fr.size hfr; have z1_ := Fr.size hf; intro y_ hy_ hl_; grind [blkOf]))
      obtain ⟨x', e, f'⟩ := again_out false (hL.tab.fr hf (by simp)) hL.five FW hlen (hL.own.fr hf (by simp)) hk hmk.1 hmk.2 (fun hp hc => agn hN hk hp hc)
      exact ⟨_, x', e, rfl, (Fr.mono (Fr.app hf f') (by have z0_ := Fr.size hf; have z1_ := Fr.size f'; intro y_ hy_ hl_; grind [blkOf]))⟩)
    (fun s' w ⟨hs', hf⟩ => by
      subst hs'
      unfold g4_l8_b
      have : ¬ ((s.2.2.1.length : Int) < (q.2.1 : Int)) := by omega
      simp only [this, decide_false, Bool.false_eq_true, if_false]) (k := 0) (s := (false, 0)) (w := w2) (Nat.zero_le _) ⟨rfl, Fr.refl [] w2⟩
  refine ⟨w3, g4_call ?_, (Fr.mono (Fr.app hfr fr) (by have z0_ := Fr.size hfr; have z1_ := Fr.size fr; intro y_ hy_ hl_; grind [blkOf]))⟩
  unfold g4
  rw [e1, obs]
  simp only [e2, g4_l8_x0_of g1, g4_l8_x0, obs, asP_pointer, asB_bool, asI_int, asS_string, asSl_slice, asM_map, asTup0, asTup1, asTup2, asTup3, asTup4, asTup5, asTup6, asTup7, asTup8, asTup9, getD0, getD1, getD2, getD3, getD4, getD5, getD6, getD7, getD8, getD9, getD10, getD11, Bool.not_true, Bool.not_false, Bool.false_eq_true, Bool.true_eq_false, ↓reduceIte, decide_true, decide_false, Option.isNone_some, Option.isNone_none, Option.isSome_some, Option.isSome_none, beq_self_eq_true, bne_self_eq_false, Bool.and_true, Bool.true_and, Bool.and_false, Bool.false_and, not_true_eq_false, not_false_eq_true]
end Go.Proofs.Ytliakpomlkgpnaa
