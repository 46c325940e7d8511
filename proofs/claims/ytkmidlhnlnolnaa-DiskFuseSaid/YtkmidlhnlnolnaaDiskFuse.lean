/-
  DiskFuse: lemmas on what Go functions of this seat come to (for whatever arguments, as each says). No condition but those that stand in each lemma.
-/
import Derived.Test.YtkmidlhnlnolnaaDiskJ
namespace Go.Proofs.Ytkmidlhnlnolnaa
open Go Go.Ev
set_option maxRecDepth 100000
set_option linter.unusedVariables false
set_option linter.unusedSimpArgs false

def nmA : ByteArray := ⟨#[97]⟩
def nmB : ByteArray := ⟨#[98]⟩

/-- the files: "b", and "a", if it is there yet -/
def fuseS (A : List (ByteArray × FV)) (took : Nat) : Prop := (A = [(nmB, [98], 0)] ∧ took = 0) ∨ ∃ d, A = [(nmB, [98], 0), (nmA, d, 0)] ∧ d.length = took

theorem fuse_app {A : List (ByteArray × FV)} {took left : Nat} (h : fuseS A took) (p : List Int) (hp : p.length ≤ 5000) (ht : took ≤ 524288) :
    ∃ A', fuseS A' (took + min left p.length) ∧ appA A (left : Int) false nmA p = (if left < p.length then 9 else 0, A', (left : Int) - (min left p.length : Nat), decide (left < p.length)) ∧ kget A' nmA = some (((kget A nmA).getD ([], 0)).1 ++ p.take (min left p.length), 0) ∧ used A' = 1 + (took + min left p.length) := by
  have hne : nmA ≠ nmB := by decide
  have hne' : nmB ≠ nmA := by decide
  have hsz : ¬ (nmA.size = 0 ∨ nmA.size > 24) := by decide
  have tk : tookN (left : Int) p.length = min left p.length := by unfold tookN; rw [if_pos (by omega)]; simp
  have fk : fuseN (left : Int) p.length = (left : Int) - (min left p.length : Nat) := by unfold fuseN; rw [if_pos (by omega), tk]
  have hlt : (min left p.length < p.length) = (left < p.length) := by rw [eq_iff_iff]; omega
  have htl : (p.take (min left p.length)).length = min left p.length := by rw [List.length_take]; omega
  rcases h with ⟨rfl, rfl⟩ | ⟨d, rfl, hd⟩
  · have hu : used [(nmB, ([98] : List Int), 0)] = 1 := rfl
    have hg : kget [(nmB, (([98] : List Int), 0))] nmA = none := by simp [kget_cons, hne, kget_nil]
    refine ⟨[(nmB, [98], 0), (nmA, p.take (min left p.length), 0)], .inr ⟨_, rfl, by rw [htl]; omega⟩, ?_, ?_, ?_⟩
    · unfold appA
      rw [if_neg (by decide), if_neg hsz, if_neg (by rw [hu]; simp; omega), tk, fk]
      simp only [hlt]
      congr 2 <;> simp [kups, hne, putF]
    · rw [hg]
      simp [kget_cons, hne]
    · simp only [used, List.map_cons, List.map_nil, List.sum_cons, List.sum_nil, htl, List.length_cons, List.length_nil]; omega
  · have hu : used [(nmB, ([98] : List Int), 0), (nmA, d, 0)] = 1 + took := by simp only [used, List.map_cons, List.map_nil, List.sum_cons, List.sum_nil, hd, List.length_cons, List.length_nil]; omega
    have hg : kget [(nmB, (([98] : List Int), 0)), (nmA, d, 0)] nmA = some (d, 0) := by simp [kget_cons, hne]
    refine ⟨[(nmB, [98], 0), (nmA, d ++ p.take (min left p.length), 0)], .inr ⟨_, rfl, by rw [List.length_append, htl]; omega⟩, ?_, ?_, ?_⟩
    · unfold appA
      rw [if_neg (by decide), if_neg hsz, if_neg (by rw [hu, hg]; simp; omega), tk, fk]
      simp only [hlt]
      congr 2 <;> simp [kups, hne, putF]
    · rw [hg]
      simp [kget_cons, hne]
    · simp only [used, List.map_cons, List.map_nil, List.sum_cons, List.sum_nil, List.length_append, htl, hd, List.length_cons, List.length_nil]; omega

structure FInv (W : World) (b : Nat) (k : Nat) (s : Bool × Int × Int × Int) (w : World) : Prop where
  ex : ∃ (left took : Nat) (A : List (ByteArray × FV)) (D : Nat → Prop), s = (false, (left : Int), (took : Int), (k : Int)) ∧ left + took ≤ 255 ∧ fuseS A took ∧ Dk w D b A (left : Int) false ∧ (∀ y, D y → W.heap.size ≤ y)
  fr : Fr [] W w

theorem fresh_of {W w w' : World} {D D' : Nat → Prop} (hF : Fr [] W w) (c : Chg D w w' D') (hD : ∀ y, D y → W.heap.size ≤ y) : Fr [] W w' ∧ ∀ y, D' y → W.heap.size ≤ y := by
  obtain ⟨S, f, hS⟩ := c.fr
  have n := c.new
  have z := hF.size
  refine ⟨(Fr.mono (Fr.app hF f) (by have z0_ := Fr.size hF; have z1_ := Fr.size f; intro y_ hy_ hl_; grind [blkOf])), fun y hy => ?_⟩
  rcases n y hy with hh | hh
  · exact hD y hh
  · omega

theorem fuse_round {W : World} {b : Nat} {u0 : Option Addr × Nat × Nat} {ps : List (List Int)} (hL : Lst .u8 W (fun y => y < W.heap.size) u0 ps) (hz : ∀ p ∈ ps, Zs p) (hn : ps.length < 9223372036854775808) (k : Nat) (s : Bool × Int × Int × Int) (w : World) (hk : k < ps.length) (hi : FInv W b k s w) :
    ∃ e s' w', g3_l11_b u0 (some ⟨b, 0, none⟩) s w = some (e, s', w') ∧ (e = .normal ∧ FInv W b (k + 1) s' w' ∨ e ≠ .normal ∧ (Fr [] W w' ∧ (e = .exit 0 ∧ (∃ A D fu, Dk w' D b A fu false) ∨ e = .ret ∧ s'.1 = true))) := by
  obtain ⟨⟨left, took, A, D, rfl, hlt, hS, hd, hD⟩, hF⟩ := hi
  have hlen := hL.len
  obtain ⟨a, q, i1, c1, r1, hc1, hb1⟩ := (hL.fr hF (by simp)).get hk
  have hql := r1.1
  have hzk := hz _ (List.getElem_mem hk)
  generalize ps[k] = p at r1 hql hzk hb1
  have hc : (k : Int) < (u0.2.1 : Int) := by omega
  by_cases hbig : (q.2.1 : Int) > 5000
  · refine ⟨.ret, (true, (left : Int), (took : Int), (k : Int)), w, ?_, .inr ⟨by simp, hF, .inr ⟨rfl, rfl⟩⟩⟩
    unfold g3_l11_b
    simp only [hc, i1, c1, hbig, Option.bind_some, asP_pointer, asB_bool, asI_int, asS_string, asSl_slice, asM_map, asTup0, asTup1, asTup2, asTup3, asTup4, asTup5, getD0, getD1, getD2, getD3, getD4, Bool.not_true, Bool.not_false, Bool.false_eq_true, Bool.true_eq_false, ↓reduceIte, decide_true, decide_false, Option.isNone_some, Option.isNone_none, Option.isSome_some, Option.isSome_none, beq_self_eq_true, bne_self_eq_false, Bool.and_true, Bool.true_and, Bool.and_false, Bool.false_and, not_true_eq_false, not_false_eq_true]
  · have ht : ¬ (took : Int) > 524288 := by omega
    obtain ⟨A', hS', ha, hg, hu⟩ := fuse_app (left := left) hS p (by omega) (by omega)
    obtain ⟨w1, D1, e1, d1, g1⟩ := append10 hd nmA r1 hzk hc1 (fun h0 y hy hm => by have := hb1 h0 y hy; have := hD y hm; omega) (by omega)
    rw [ha] at e1 d1
    obtain ⟨F1, hD1⟩ := fresh_of hF g1 hD
    change callF Try.prog 10 #[.pointer (some ⟨b, 0, none⟩), .string (⟨#[97]⟩ : ByteArray), .slice q.1 q.2.1 q.2.2] w = _ at e1
    by_cases hov : left < p.length
    · have hq : (q.2.1 : Int) > (left : Int) := by omega
      rw [if_pos hov] at e1
      simp only [hov, decide_true] at d1
      have e2 := dead12 d1
      have h99 : ((9 : Int) != 9) = false := by decide
      obtain ⟨w3, e3, d3, g3⟩ := sync13 d1 (⟨#[98]⟩ : ByteArray)
      have a3 : syncA A' true (⟨#[98]⟩ : ByteArray) = (9, A') := by unfold syncA; rw [if_pos rfl]
      rw [a3] at e3 d3
      obtain ⟨F3, hD3⟩ := fresh_of F1 g3 hD1
      obtain ⟨w4, D4, e4, d4, g4⟩ := append10 (p := []) d3 (⟨#[99]⟩ : ByteArray) (u := (none, 0, 0)) ⟨rfl, fun h => absurd h (by decide)⟩ (by intro z hz; simp at hz) (Nat.le_refl _) (fun h => absurd h (by decide)) (by decide)
      have a4 : appA A' ((left : Int) - (min left p.length : Nat)) true (⟨#[99]⟩ : ByteArray) [] = (9, A', (left : Int) - (min left p.length : Nat), true) := by unfold appA; rw [if_pos rfl]
      rw [a4] at e4 d4
      obtain ⟨F4, hD4⟩ := fresh_of F3 g4 hD3
      have hmin : min left p.length = left := by omega
      have hw : IntKind.i64.wrap ((took : Int) + (left : Int)) = ((took + left : Nat) : Int) := by rw [wrap_i64 (by omega) (by omega)]; omega
      obtain ⟨w5, e5, d5, g5⟩ := crash14 d4 (keep := ((took + left : Nat) : Int)) (by omega)
      obtain ⟨F5, hD5⟩ := fresh_of F4 g5 hD4
      rw [hmin] at hS' hg hu
      -- what is there
      have hA' : ∃ d, A' = [(nmB, [98], 0), (nmA, d, 0)] ∧ d.length = took + left := by
        rcases hS' with ⟨rfl, h0⟩ | h
        · exfalso
          have : kget [(nmB, (([98] : List Int), 0))] nmA = none := by decide
          rw [this] at hg; cases hg
        · exact h
      obtain ⟨d, rfl, hdl⟩ := hA'
      obtain ⟨m, hm, hcr⟩ : ∃ m, m ≤ took + left ∧ crashA ((took + left : Nat) : Int) [(nmB, [98], 0), (nmA, d, 0)] = [(nmB, crashV ((took + left : Nat) : Int) ([98], 0)), (nmA, d.take m, m)] := by
        refine ⟨leftN ((took + left : Nat) : Int) (d, 0), ?_, rfl⟩
        rw [← hdl]; exact (leftN_le _ (Nat.zero_le _)).2
      rw [hcr] at d5
      have hcb : (crashV ((took + left : Nat) : Int) ([98], 0)).1.length ≤ 1 := by
        unfold crashV; simp only [List.length_take]; simp; omega
      generalize crashV ((took + left : Nat) : Int) ([98], 0) = cv at d5 hcb
      have hne : nmA ≠ nmB := by decide
      obtain ⟨q6, w6, e6, o6, f6, h6, z6, _⟩ := read15 d5 (⟨#[97]⟩ : ByteArray)
      have a6 : readA [(nmB, cv), (nmA, d.take m, m)] false (⟨#[97]⟩ : ByteArray) = (d.take m, 0) := by
        unfold readA
        rw [if_neg (by decide)]
        have : kget [(nmB, cv), (nmA, d.take m, m)] (⟨#[97]⟩ : ByteArray) = some (d.take m, m) := by
          show kget _ nmA = _
          simp [kget_cons, hne]
        rw [this]
      rw [a6] at e6 o6
      have hol := o6.len
      simp only [List.length_map, Nat.mul_one, List.length_take] at hol
      have hle : (q6.2.1 : Int) ≤ ((took + left : Nat) : Int) := by omega
      have d6 := d5.fr f6 (by simp)
      obtain ⟨w7, e7, s7, f7, z7⟩ := conv_lit w6 [109, 111, 114, 101]
      have d7 := d6.fr f7 (by simp)
      obtain ⟨w8, D8, e8, d8, g8⟩ := append10 d7 nmA s7 (by unfold Zs; decide) (Nat.le_refl _) (fun _ y hy hm => by simp [blkOf] at hy; have := d6.lt y hm; omega) (by decide)
      have hcu : used [(nmB, cv), (nmA, d.take m, m)] ≤ 1 + (took + left) := by
        simp only [used, List.map_cons, List.map_nil, List.sum_cons, List.sum_nil, List.length_take]; omega
      have a8 : (appA [(nmB, cv), (nmA, d.take m, m)] (-1) false nmA [109, 111, 114, 101]).1 = 0 ∧ (appA [(nmB, cv), (nmA, d.take m, m)] (-1) false nmA [109, 111, 114, 101]).2.2.2 = false := by
        unfold appA
        rw [if_neg (by decide), if_neg (by decide), if_neg (by simp; omega)]
        have : tookN (-1) ([109, 111, 114, 101] : List Int).length = ([109, 111, 114, 101] : List Int).length := rfl
        rw [this]
        simp
      rw [a8.1] at e8
      rw [a8.2] at d8
      have e9 := dead12 d8
      have h00 : ((0 : Int) == 0) = true := by decide
      obtain ⟨F8, _⟩ := fresh_of ((Fr.mono (Fr.app (Fr.app F5 f6) f7) (by have z0_ := Fr.size F5; have z1_ := Fr.size f6; have z2_ := Fr.size f7; intro y_ hy_ hl_; grind [blkOf]))) g8 (W := W) (fun y hy => hD5 y hy)
      refine ⟨.ret, (true, (left : Int), ((took + left : Nat) : Int), (k : Int)), w8, ?_, .inr ⟨by simp, F8, .inr ⟨rfl, rfl⟩⟩⟩
      change semR Try.prog (convert 28 28 (.slice (some ⟨w6.heap.size, 0, none⟩) 4 4)) (w6.alloc (.cells #[.int .u8 109, .int .u8 111, .int .u8 114, .int .u8 101] 5)) = some (.slice (some ⟨w6.heap.size, 0, none⟩) 4 4, w7) at e7
      change callF Try.prog 10 #[.pointer (some ⟨b, 0, none⟩), .string (⟨#[97]⟩ : ByteArray), .slice (some ⟨w6.heap.size, 0, none⟩) 4 4] w7 = _ at e8
      unfold g3_l11_b
      simp only [hc, i1, c1, hbig, ht, e1, hq, h99, e2, e3, e4, hw, e5, e6, h00, hle, e7, e8, e9, Option.bind_some, asP_pointer, asB_bool, asI_int, asS_string, asSl_slice, asM_map, asTup0, asTup1, asTup2, asTup3, asTup4, asTup5, getD0, getD1, getD2, getD3, getD4, Bool.not_true, Bool.not_false, Bool.false_eq_true, Bool.true_eq_false, ↓reduceIte, decide_true, decide_false, Option.isNone_some, Option.isNone_none, Option.isSome_some, Option.isSome_none, beq_self_eq_true, bne_self_eq_false, Bool.and_true, Bool.true_and, Bool.and_false, Bool.false_and, not_true_eq_false, not_false_eq_true]
    · have hq : ¬ (q.2.1 : Int) > (left : Int) := by omega
      rw [if_neg hov] at e1
      simp only [hov, decide_false] at d1
      have e2 := dead12 d1
      have h00 : ((0 : Int) != 0) = false := by decide
      have hmin : min left p.length = p.length := by omega
      rw [hmin] at hS' d1
      have w1' : IntKind.i64.wrap ((left : Int) - (q.2.1 : Int)) = ((left - p.length : Nat) : Int) := by rw [wrap_i64 (by omega) (by omega)]; omega
      have w2' : IntKind.i64.wrap ((took : Int) + (q.2.1 : Int)) = ((took + p.length : Nat) : Int) := by rw [wrap_i64 (by omega) (by omega)]; omega
      have hs := wrap_succ (n := k) (by omega)
      have hfu : (left : Int) - (p.length : Nat) = ((left - p.length : Nat) : Int) := by omega
      rw [hfu] at d1
      refine ⟨.normal, (false, ((left - p.length : Nat) : Int), ((took + p.length : Nat) : Int), ((k + 1 : Nat) : Int)), w1, ?_, .inl ⟨rfl, ⟨left - p.length, took + p.length, A', D1, rfl, by omega, hS', d1, hD1⟩, F1⟩⟩
      unfold g3_l11_b
      simp only [hc, i1, c1, hbig, ht, e1, hq, h00, e2, w1', w2', hs, Option.bind_some, asP_pointer, asB_bool, asI_int, asS_string, asSl_slice, asM_map, asTup0, asTup1, asTup2, asTup3, asTup4, asTup5, getD0, getD1, getD2, getD3, getD4, Bool.not_true, Bool.not_false, Bool.false_eq_true, Bool.true_eq_false, ↓reduceIte, decide_true, decide_false, Option.isNone_some, Option.isNone_none, Option.isSome_some, Option.isSome_none, beq_self_eq_true, bne_self_eq_false, Bool.and_true, Bool.true_and, Bool.and_false, Bool.false_and, not_true_eq_false, not_false_eq_true]

theorem DiskFuse_main (W : World) (x0 : (Ty.slice (.slice (.int .u8))).Val) (h0 : (Ty.slice (.slice (.int .u8))).At W [.slice x0.1.1 x0.1.2.1 x0.1.2.2] x0) (n1 : Int) (h1 : IntKind.u8.min ≤ n1 ∧ n1 ≤ IntKind.u8.max) :
    ∃ w', callF Try.prog 3 #[.slice x0.1.1 x0.1.2.1 x0.1.2.2, .int .u8 n1] W = some (.bool true, w') ∧ Fr [] W w' := by
  obtain ⟨hL, hz, hcap⟩ := lst_of_at h0
  replace hz : ∀ p ∈ x0.2.map (·.2), Zs p := fun p hp z hzz => u8_range (hz p hp z hzz)
  have hml : maxLen = 9223372036854775807 := by decide
  have hmx := h0.2.2.2.1
  obtain ⟨ps, hps⟩ : ∃ ps : List (List Int), x0.2.map (·.2) = ps := ⟨_, rfl⟩
  rw [hps] at hL hz
  generalize x0.1 = u0 at hL hcap hmx
  have hLl := hL.len
  replace h1 := u8_range h1
  obtain ⟨m, rfl⟩ := Int.eq_ofNat_of_zero_le h1.1
  obtain ⟨w1, D1, e1, d1, f1, n1⟩ := new8 W
  obtain ⟨w2, e2, f2⟩ := awake9 (w := w1)
  have d2 := d1.fr f2 (by simp)
  obtain ⟨w3, e3, s3, f3, z3⟩ := conv_lit w2 [98]
  have d3 := d2.fr f3 (by simp)
  obtain ⟨w4, D4, e4, d4, g4⟩ := append10 d3 nmB s3 (by unfold Zs; decide) (Nat.le_refl _) (fun _ y hy hm => by simp [blkOf] at hy; have := d2.lt y hm; omega) (by decide)
  have a4 : appA [] (-1) false nmB [98] = (0, [(nmB, [98], 0)], -1, false) := by decide +kernel
  rw [a4] at e4 d4
  have F3 : Fr [] W w3 := (Fr.mono (Fr.app (Fr.app f1 f2) f3) (by have z0_ := Fr.size f1; have z1_ := Fr.size f2; have z2_ := Fr.size f3; intro y_ hy_ hl_; grind [blkOf]))
  obtain ⟨F4, hD4⟩ := fresh_of F3 g4 n1
  have hw : IntKind.i64.wrap (m : Int) = (m : Int) := wrap_i64 (by omega) (by omega)
  obtain ⟨w5, e5, d5, g5⟩ := arm11 d4 (n := (m : Int)) (by omega)
  have a5 : armA (-1) false (m : Int) = (m : Int) := by unfold armA; rw [if_neg (by decide), if_neg (by omega)]
  rw [a5] at d5
  obtain ⟨F5, hD5⟩ := fresh_of F4 g5 hD4
  obtain ⟨e, t, w6, q1, qF, q2⟩ := loopS_rule (b := g3_l11_b u0 (some ⟨W.heap.size + 1, 0, none⟩)) (I := FInv W (W.heap.size + 1))
    (Q := fun e s' w' => Fr [] W w' ∧ (e = .exit 0 ∧ (∃ A D fu, Dk w' D (W.heap.size + 1) A fu false) ∨ e = .ret ∧ s'.1 = true)) (n := ps.length)
    (fun k s x hk hi => fuse_round hL hz (by omega) k s x hk hi)
    (fun s x hi => by
      obtain ⟨⟨left, took, A, D, rfl, hlt, hS, hd, hD⟩, hF⟩ := hi
      have hc : ¬ ((ps.length : Nat) : Int) < (u0.2.1 : Int) := by omega
      refine ⟨.exit 0, (false, (left : Int), (took : Int), ((ps.length : Nat) : Int)), x, ?_, by simp, hF, .inl ⟨rfl, A, D, _, hd⟩⟩
      unfold g3_l11_b
      simp only [hc, Option.bind_some, asP_pointer, asB_bool, asI_int, asS_string, asSl_slice, asM_map, asTup0, asTup1, asTup2, asTup3, asTup4, asTup5, getD0, getD1, getD2, getD3, getD4, Bool.not_true, Bool.not_false, Bool.false_eq_true, Bool.true_eq_false, ↓reduceIte, decide_true, decide_false, Option.isNone_some, Option.isNone_none, Option.isSome_some, Option.isSome_none, beq_self_eq_true, bne_self_eq_false, Bool.and_true, Bool.true_and, Bool.and_false, Bool.false_and, not_true_eq_false, not_false_eq_true])
    (Nat.zero_le _) (k := 0) (s := (false, (m : Int), 0, 0)) (w := w5) ⟨⟨m, 0, _, D4, rfl, by omega, .inl ⟨rfl, rfl⟩, d5, hD5⟩, F5⟩
  have h00 : ((0 : Int) != 0) = false := by decide
  change semR Try.prog (convert 28 28 (.slice (some ⟨w2.heap.size, 0, none⟩) 1 1)) (w2.alloc (.cells #[.int .u8 98] 5)) = some (.slice (some ⟨w2.heap.size, 0, none⟩) 1 1, w3) at e3
  change callF Try.prog 10 #[.pointer (some ⟨W.heap.size + 1, 0, none⟩), .string (⟨#[98]⟩ : ByteArray), .slice (some ⟨w2.heap.size, 0, none⟩) 1 1] w3 = _ at e4
  refine ⟨w6, g3_call ?_, qF⟩
  rcases q2 with ⟨rfl, A, D, fu, hd⟩ | ⟨rfl, ht⟩
  · have e6 := dead12 hd
    unfold g3
    simp only [e1, e2, e3, e4, h00, hw, e5, g3_l11_x0_of q1, Option.bind_some, asP_pointer, asB_bool, asI_int, asS_string, asSl_slice, asM_map, asTup0, asTup1, asTup2, asTup3, asTup4, asTup5, getD0, getD1, getD2, getD3, getD4, Bool.not_true, Bool.not_false, Bool.false_eq_true, Bool.true_eq_false, ↓reduceIte, decide_true, decide_false, Option.isNone_some, Option.isNone_none, Option.isSome_some, Option.isSome_none, beq_self_eq_true, bne_self_eq_false, Bool.and_true, Bool.true_and, Bool.and_false, Bool.false_and, not_true_eq_false, not_false_eq_true]
    unfold g3_l11_x0
    simp only [e6, Option.bind_some, asP_pointer, asB_bool, asI_int, asS_string, asSl_slice, asM_map, asTup0, asTup1, asTup2, asTup3, asTup4, asTup5, getD0, getD1, getD2, getD3, getD4, Bool.not_true, Bool.not_false, Bool.false_eq_true, Bool.true_eq_false, ↓reduceIte, decide_true, decide_false, Option.isNone_some, Option.isNone_none, Option.isSome_some, Option.isSome_none, beq_self_eq_true, bne_self_eq_false, Bool.and_true, Bool.true_and, Bool.and_false, Bool.false_and, not_true_eq_false, not_false_eq_true]
  · unfold g3
    simp only [e1, e2, e3, e4, h00, hw, e5, g3_l11_ret_of q1, g3_l11_ret, ht, Option.bind_some, asP_pointer, asB_bool, asI_int, asS_string, asSl_slice, asM_map, asTup0, asTup1, asTup2, asTup3, asTup4, asTup5, getD0, getD1, getD2, getD3, getD4, Bool.not_true, Bool.not_false, Bool.false_eq_true, Bool.true_eq_false, ↓reduceIte, decide_true, decide_false, Option.isNone_some, Option.isNone_none, Option.isSome_some, Option.isSome_none, beq_self_eq_true, bne_self_eq_false, Bool.and_true, Bool.true_and, Bool.and_false, Bool.false_and, not_true_eq_false, not_false_eq_true]
end Go.Proofs.Ytkmidlhnlnolnaa
