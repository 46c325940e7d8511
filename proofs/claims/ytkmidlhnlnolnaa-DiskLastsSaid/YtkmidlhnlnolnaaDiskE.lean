/-
  DiskE: lemmas on what Go functions of this seat come to (for whatever arguments, as each says). No condition but those that stand in each lemma.
-/
import Derived.Test.YtkmidlhnlnolnaaDiskD
namespace Go.Proofs.Ytkmidlhnlnolnaa
open Go Go.Ev
set_option maxRecDepth 100000
set_option linter.unusedVariables false
set_option linter.unusedSimpArgs false

/-- how many bytes are written -/
def tookN (fuse : Int) (l : Nat) : Nat := if fuse ≥ 0 then min fuse.toNat l else l
def fuseN (fuse : Int) (l : Nat) : Int := if fuse ≥ 0 then fuse - (tookN fuse l : Int) else fuse
def putF (bs : List Int) (o : Option FV) : FV := match o with | none => (bs, 0) | some v => (v.1 ++ bs, v.2)

/-- what Append answers, and what there is then -/
def appA (A : List (ByteArray × FV)) (fuse : Int) (dead : Bool) (n : ByteArray) (p : List Int) : Int × List (ByteArray × FV) × Int × Bool :=
  if dead = true then (9, A, fuse, true)
  else if n.size = 0 ∨ n.size > 24 then (1, A, fuse, false)
  else if p.length > 4194304 - used A ∨ kget A n = none ∧ A.length = 4096 then (3, A, fuse, false)
  else (if tookN fuse p.length < p.length then 9 else 0, kups A n (putF (p.take (tookN fuse p.length))), fuseN fuse p.length, decide (tookN fuse p.length < p.length))

section
variable {w : World} {D : Nat → Prop} {b : Nat} {A : List (ByteArray × FV)} {fuse : Int} {dead : Bool}

theorem mid8 {r : Nat} {fs : List FE} {U : Nat} (hb : Blk w b [.map (some r), .int .i64 fuse, .bool false, .int .i64 (U : Int)] 59) (hU : U = used (fs.map FE.ab)) (hm : MapAt Value.string w r (keysOf fs)) (hfs : Fs w D fs) (hDr : D r) (hDb : D b)
    (hlt : ∀ y, D y → y < w.heap.size) (hfuse : -1 ≤ fuse ∧ fuse ≤ 9223372036854775807) (hlen : fs.length ≤ 4096) {i : Nat} (hi : i < fs.length) {u : Option Addr × Nat × Nat} {p : List Int} (hp : Sl8 w u p) (hz : Zs p) (hc : u.2.1 ≤ u.2.2)
    (hd : 0 < p.length → ∀ y ∈ blkOf u, ¬ D y) (hroom : U + p.length ≤ 4194304) :
    ∃ w' D', g10_j8 (some ⟨b, 0, none⟩) u (some ⟨fs[i].fb, 0, none⟩) w = some (.int .i64 (if tookN fuse p.length < p.length then 9 else 0), w') ∧
      Dk w' D' b ((fs.map FE.ab).set i (fs[i].name, fs[i].data ++ p.take (tookN fuse p.length), fs[i].syn)) (fuseN fuse p.length) (decide (tookN fuse p.length < p.length)) ∧ Chg D w w' D' := by
  have hul := hp.1
  have c1 : w.cell? ⟨b, 1, none⟩ = some (.int .i64 fuse) := hb.cell 1
  by_cases hf0 : fuse ≥ 0
  · have ht : tookN fuse p.length = min fuse.toNat p.length := by unfold tookN; rw [if_pos hf0]
    have hfu : fuseN fuse p.length = fuse - (tookN fuse p.length : Int) := by unfold fuseN; rw [if_pos hf0]
    have hx : (if (fuse : Int) < (u.2.1 : Int) then fuse else (u.2.1 : Int)) = ((tookN fuse p.length : Nat) : Int) := by
      rw [ht]; split <;> omega
    have hle : tookN fuse p.length ≤ p.length := by rw [ht]; exact Nat.min_le_right _ _
    have hle2 : (tookN fuse p.length : Int) ≤ fuse := by rw [ht]; omega
    have hw : IntKind.i64.wrap (fuse - (tookN fuse p.length : Int)) = fuseN fuse p.length := by rw [hfu, wrap_i64 (by omega) (by omega)]
    have t1 : st1 w ⟨b, 1, none⟩ (.int .i64 (fuseN fuse p.length)) = some (w.setCell ⟨b, 1, none⟩ (.int .i64 (fuseN fuse p.length))) := hb.st1 (by simp) rfl
    have f1 : Fr [b] w (w.setCell ⟨b, 1, none⟩ (.int .i64 (fuseN fuse p.length))) := Fr.setCell
    have hb1 := hb.set 1 (.int .i64 (fuseN fuse p.length))
    simp only [List.set_cons_succ, List.set_cons_zero] at hb1
    have rb : r ≠ b := hm.ne_blk hb
    have hm1 := hm.fr f1 (by simpa using rb)
    have hfs1 : Fs (w.setCell ⟨b, 1, none⟩ (.int .i64 (fuseN fuse p.length))) D fs := hfs.fr f1 (by
      intro y hy j hj
      simp at hy; subst hy
      exact ⟨hb.ne (hfs.ok j hj).blk (by decide), hb.notin (hfs.ok j hj).own (by decide)⟩) (fun _ => id)
    have hp1 := SlI.fr3 hp f1 (by intro h0 y hy hm; simp at hm; subst hm; exact hd (by omega) y hy hDb)
    obtain ⟨w', D', e, d, c⟩ := tail30 (n := tookN fuse p.length) hb1 hU hm1 hfs1 hDr hDb (by intro y hy; have := hlt y hy; have := f1.size; omega) (by rw [hfu]; omega) hlen hi hp1 hz hc hd hle hroom
    refine ⟨w', D', ?_, d, ?_⟩
    · unfold g10_j8
      simp only [addr_add, Nat.zero_add, c1, hf0, hx, hw, t1, e, obs, asP_pointer, asB_bool, asI_int, asS_string, asSl_slice, asM_map, asTup0, asTup1, asTup2, asTup3, asTup4, asTup5, asTup6, asTup7, asTup8, asTup9, asAgg2, asAgg3, asAgg4, asAgg5, asAgg6, asAgg7, asAgg8, asAgg9, asAgg12, getD0, getD1, getD2, getD3, getD4, getD5, getD6, getD7, getD8, getD9, getD10, getD11, getD12, getD13, getD14, getD15, getD16, getD17, getD18, getD19, Bool.not_true, Bool.not_false, Bool.false_eq_true, Bool.true_eq_false, ↓reduceIte, decide_true, decide_false, Option.isNone_some, Option.isNone_none, Option.isSome_some, Option.isSome_none, beq_self_eq_true, bne_self_eq_false, Bool.and_true, Bool.true_and, Bool.and_false, Bool.false_and, not_true_eq_false, not_false_eq_true]
    · exact Chg.trans (Chg.of_fr f1 (by intro y hy _; simp at hy; subst hy; exact hDb)) c hlt
  · have ht : tookN fuse p.length = p.length := by unfold tookN; rw [if_neg hf0]
    have hfu : fuseN fuse p.length = fuse := by unfold fuseN; rw [if_neg hf0]
    rw [ht, hfu]
    obtain ⟨w', D', e, d, c⟩ := tail30 (n := p.length) hb hU hm hfs hDr hDb hlt hfuse hlen hi hp hz hc hd (Nat.le_refl _) hroom
    refine ⟨w', D', ?_, d, c⟩
    have hx : (u.2.1 : Int) = ((p.length : Nat) : Int) := by omega
    unfold g10_j8
    simp only [addr_add, Nat.zero_add, c1, hf0, hx, e, obs, asP_pointer, asB_bool, asI_int, asS_string, asSl_slice, asM_map, asTup0, asTup1, asTup2, asTup3, asTup4, asTup5, asTup6, asTup7, asTup8, asTup9, asAgg2, asAgg3, asAgg4, asAgg5, asAgg6, asAgg7, asAgg8, asAgg9, asAgg12, getD0, getD1, getD2, getD3, getD4, getD5, getD6, getD7, getD8, getD9, getD10, getD11, getD12, getD13, getD14, getD15, getD16, getD17, getD18, getD19, Bool.not_true, Bool.not_false, Bool.false_eq_true, Bool.true_eq_false, ↓reduceIte, decide_true, decide_false, Option.isNone_some, Option.isNone_none, Option.isSome_some, Option.isSome_none, beq_self_eq_true, bne_self_eq_false, Bool.and_true, Bool.true_and, Bool.and_false, Bool.false_and, not_true_eq_false, not_false_eq_true]

theorem append10 (h : Dk w D b A fuse dead) (n : ByteArray) {u : Option Addr × Nat × Nat} {p : List Int} (hp : Sl8 w u p) (hz : Zs p) (hc : u.2.1 ≤ u.2.2) (hd : 0 < p.length → ∀ y ∈ blkOf u, ¬ D y) (hpl : p.length ≤ 9223372036854775807) :
    ∃ w' D', callF Try.prog 10 #[.pointer (some ⟨b, 0, none⟩), .string n, .slice u.1 u.2.1 u.2.2] w = some (.int .i64 (appA A fuse dead n p).1, w') ∧
      Dk w' D' b (appA A fuse dead n p).2.1 (appA A fuse dead n p).2.2.1 (appA A fuse dead n p).2.2.2 ∧ Chg D w w' D' := by
  have hul := hp.1
  have e25 := state25 h
  have h90 : ((9 : Int) != 0) = true := by decide
  have h00 : ((0 : Int) != 0) = false := by decide
  cases dead with
  | true =>
    have ha : appA A fuse true n p = (9, A, fuse, true) := by unfold appA; rw [if_pos rfl]
    rw [ha]
    refine ⟨w, D, g10_call ?_, h, Chg.refl _ _⟩
    unfold g10
    simp only [e25, h90, obs, asP_pointer, asB_bool, asI_int, asS_string, asSl_slice, asM_map, asTup0, asTup1, asTup2, asTup3, asTup4, asTup5, asTup6, asTup7, asTup8, asTup9, asAgg2, asAgg3, asAgg4, asAgg5, asAgg6, asAgg7, asAgg8, asAgg9, asAgg12, getD0, getD1, getD2, getD3, getD4, getD5, getD6, getD7, getD8, getD9, getD10, getD11, getD12, getD13, getD14, getD15, getD16, getD17, getD18, getD19, Bool.not_true, Bool.not_false, Bool.false_eq_true, Bool.true_eq_false, ↓reduceIte, decide_true, decide_false, Option.isNone_some, Option.isNone_none, Option.isSome_some, Option.isSome_none, beq_self_eq_true, bne_self_eq_false, Bool.and_true, Bool.true_and, Bool.and_false, Bool.false_and, not_true_eq_false, not_false_eq_true]
  | false =>
    have hused := h.used
    have hfuse := h.fuse
    have hlen0 := h.len
    have hDb := h.db
    have hlt := h.lt
    obtain ⟨r, fs, h1, h2, h3, h4, h5⟩ := h.ex
    have c0 : w.cell? ⟨b, 0, none⟩ = some (.map (some r)) := h2.cell 0
    have c3 : w.cell? ⟨b, 3, none⟩ = some (.int .i64 ((used A : Nat) : Int)) := h2.cell 3
    have lk := look_ptr h3 n
    by_cases hn0 : n.size = 0
    · have ha : appA A fuse false n p = (1, A, fuse, false) := by unfold appA; rw [if_neg (by decide), if_pos (.inl hn0)]
      rw [ha]
      refine ⟨w, D, g10_call ?_, h, Chg.refl _ _⟩
      have hs : (n.toList == (⟨#[]⟩ : ByteArray).toList) = true := by rw [str_empty]; simpa using hn0
      rcases keysOf_get fs n with ⟨i, hi, k1, k2, k3, k4, k5, k6⟩ | ⟨k1, k2, k3, k4⟩
      · rw [k2] at lk
        unfold g10
        simp only [e25, h00, c0, lk, Option.getD_some, hs, obs, asP_pointer, asB_bool, asI_int, asS_string, asSl_slice, asM_map, asTup0, asTup1, asTup2, asTup3, asTup4, asTup5, asTup6, asTup7, asTup8, asTup9, asAgg2, asAgg3, asAgg4, asAgg5, asAgg6, asAgg7, asAgg8, asAgg9, asAgg12, getD0, getD1, getD2, getD3, getD4, getD5, getD6, getD7, getD8, getD9, getD10, getD11, getD12, getD13, getD14, getD15, getD16, getD17, getD18, getD19, Bool.not_true, Bool.not_false, Bool.false_eq_true, Bool.true_eq_false, ↓reduceIte, decide_true, decide_false, Option.isNone_some, Option.isNone_none, Option.isSome_some, Option.isSome_none, beq_self_eq_true, bne_self_eq_false, Bool.and_true, Bool.true_and, Bool.and_false, Bool.false_and, not_true_eq_false, not_false_eq_true]
      · rw [k1] at lk
        unfold g10
        simp only [e25, h00, c0, lk, Option.getD_none, hs, obs, asP_pointer, asB_bool, asI_int, asS_string, asSl_slice, asM_map, asTup0, asTup1, asTup2, asTup3, asTup4, asTup5, asTup6, asTup7, asTup8, asTup9, asAgg2, asAgg3, asAgg4, asAgg5, asAgg6, asAgg7, asAgg8, asAgg9, asAgg12, getD0, getD1, getD2, getD3, getD4, getD5, getD6, getD7, getD8, getD9, getD10, getD11, getD12, getD13, getD14, getD15, getD16, getD17, getD18, getD19, Bool.not_true, Bool.not_false, Bool.false_eq_true, Bool.true_eq_false, ↓reduceIte, decide_true, decide_false, Option.isNone_some, Option.isNone_none, Option.isSome_some, Option.isSome_none, beq_self_eq_true, bne_self_eq_false, Bool.and_true, Bool.true_and, Bool.and_false, Bool.false_and, not_true_eq_false, not_false_eq_true]
    · have hs : (n.toList == (⟨#[]⟩ : ByteArray).toList) = false := by rw [str_empty]; simpa using hn0
      by_cases hn24 : n.size > 24
      · have ha : appA A fuse false n p = (1, A, fuse, false) := by unfold appA; rw [if_neg (by decide), if_pos (.inr hn24)]
        rw [ha]
        refine ⟨w, D, g10_call ?_, h, Chg.refl _ _⟩
        have hg : (n.size : Int) > 24 := by omega
        rcases keysOf_get fs n with ⟨i, hi, k1, k2, k3, k4, k5, k6⟩ | ⟨k1, k2, k3, k4⟩
        · rw [k2] at lk
          unfold g10
          simp only [e25, h00, c0, lk, Option.getD_some, hs, hg, obs, asP_pointer, asB_bool, asI_int, asS_string, asSl_slice, asM_map, asTup0, asTup1, asTup2, asTup3, asTup4, asTup5, asTup6, asTup7, asTup8, asTup9, asAgg2, asAgg3, asAgg4, asAgg5, asAgg6, asAgg7, asAgg8, asAgg9, asAgg12, getD0, getD1, getD2, getD3, getD4, getD5, getD6, getD7, getD8, getD9, getD10, getD11, getD12, getD13, getD14, getD15, getD16, getD17, getD18, getD19, Bool.not_true, Bool.not_false, Bool.false_eq_true, Bool.true_eq_false, ↓reduceIte, decide_true, decide_false, Option.isNone_some, Option.isNone_none, Option.isSome_some, Option.isSome_none, beq_self_eq_true, bne_self_eq_false, Bool.and_true, Bool.true_and, Bool.and_false, Bool.false_and, not_true_eq_false, not_false_eq_true]
        · rw [k1] at lk
          unfold g10
          simp only [e25, h00, c0, lk, Option.getD_none, hs, hg, obs, asP_pointer, asB_bool, asI_int, asS_string, asSl_slice, asM_map, asTup0, asTup1, asTup2, asTup3, asTup4, asTup5, asTup6, asTup7, asTup8, asTup9, asAgg2, asAgg3, asAgg4, asAgg5, asAgg6, asAgg7, asAgg8, asAgg9, asAgg12, getD0, getD1, getD2, getD3, getD4, getD5, getD6, getD7, getD8, getD9, getD10, getD11, getD12, getD13, getD14, getD15, getD16, getD17, getD18, getD19, Bool.not_true, Bool.not_false, Bool.false_eq_true, Bool.true_eq_false, ↓reduceIte, decide_true, decide_false, Option.isNone_some, Option.isNone_none, Option.isSome_some, Option.isSome_none, beq_self_eq_true, bne_self_eq_false, Bool.and_true, Bool.true_and, Bool.and_false, Bool.false_and, not_true_eq_false, not_false_eq_true]
      · have hg : ¬ (n.size : Int) > 24 := by omega
        have hw : IntKind.i64.wrap (4194304 - ((used A : Nat) : Int)) = 4194304 - ((used A : Nat) : Int) := wrap_i64 (by omega) (by omega)
        by_cases hbig : p.length > 4194304 - used A
        · have ha : appA A fuse false n p = (3, A, fuse, false) := by unfold appA; rw [if_neg (by decide), if_neg (by omega), if_pos (.inl hbig)]
          rw [ha]
          refine ⟨w, D, g10_call ?_, h, Chg.refl _ _⟩
          have hg2 : (u.2.1 : Int) > 4194304 - ((used A : Nat) : Int) := by omega
          rcases keysOf_get fs n with ⟨i, hi, k1, k2, k3, k4, k5, k6⟩ | ⟨k1, k2, k3, k4⟩
          · rw [k2] at lk
            unfold g10
            simp only [e25, h00, c0, lk, Option.getD_some, hs, hg, addr_add, Nat.zero_add, c3, hw, hg2, obs, asP_pointer, asB_bool, asI_int, asS_string, asSl_slice, asM_map, asTup0, asTup1, asTup2, asTup3, asTup4, asTup5, asTup6, asTup7, asTup8, asTup9, asAgg2, asAgg3, asAgg4, asAgg5, asAgg6, asAgg7, asAgg8, asAgg9, asAgg12, getD0, getD1, getD2, getD3, getD4, getD5, getD6, getD7, getD8, getD9, getD10, getD11, getD12, getD13, getD14, getD15, getD16, getD17, getD18, getD19, Bool.not_true, Bool.not_false, Bool.false_eq_true, Bool.true_eq_false, ↓reduceIte, decide_true, decide_false, Option.isNone_some, Option.isNone_none, Option.isSome_some, Option.isSome_none, beq_self_eq_true, bne_self_eq_false, Bool.and_true, Bool.true_and, Bool.and_false, Bool.false_and, not_true_eq_false, not_false_eq_true]
          · rw [k1] at lk
            unfold g10
            simp only [e25, h00, c0, lk, Option.getD_none, hs, hg, addr_add, Nat.zero_add, c3, hw, hg2, obs, asP_pointer, asB_bool, asI_int, asS_string, asSl_slice, asM_map, asTup0, asTup1, asTup2, asTup3, asTup4, asTup5, asTup6, asTup7, asTup8, asTup9, asAgg2, asAgg3, asAgg4, asAgg5, asAgg6, asAgg7, asAgg8, asAgg9, asAgg12, getD0, getD1, getD2, getD3, getD4, getD5, getD6, getD7, getD8, getD9, getD10, getD11, getD12, getD13, getD14, getD15, getD16, getD17, getD18, getD19, Bool.not_true, Bool.not_false, Bool.false_eq_true, Bool.true_eq_false, ↓reduceIte, decide_true, decide_false, Option.isNone_some, Option.isNone_none, Option.isSome_some, Option.isSome_none, beq_self_eq_true, bne_self_eq_false, Bool.and_true, Bool.true_and, Bool.and_false, Bool.false_and, not_true_eq_false, not_false_eq_true]
        · have hg2 : ¬ (u.2.1 : Int) > 4194304 - ((used A : Nat) : Int) := by omega
          subst h1
          have hfl : fs.length ≤ 4096 := by simpa using hlen0
          rcases keysOf_get fs n with ⟨i, hi, k1, k2, k3, k4, k5, k6⟩ | ⟨k1, k2, k3, k4⟩
          · rw [k2] at lk
            have ha : appA (fs.map FE.ab) fuse false n p = (if tookN fuse p.length < p.length then 9 else 0, (fs.map FE.ab).set i (fs[i].name, fs[i].data ++ p.take (tookN fuse p.length), fs[i].syn), fuseN fuse p.length, decide (tookN fuse p.length < p.length)) := by
              unfold appA
              rw [if_neg (by decide), if_neg (by omega), if_neg (by rw [k3]; simp; omega), k4, k1]
              rfl
            rw [ha]
            obtain ⟨w', D', e, d, c⟩ := mid8 h2 rfl h3 h4 h5 hDb hlt hfuse hfl hi hp hz hc hd (by omega)
            refine ⟨w', D', g10_call ?_, d, c⟩
            unfold g10
            simp only [e25, h00, c0, lk, Option.getD_some, hs, hg, addr_add, Nat.zero_add, c3, hw, hg2, e, obs, asP_pointer, asB_bool, asI_int, asS_string, asSl_slice, asM_map, asTup0, asTup1, asTup2, asTup3, asTup4, asTup5, asTup6, asTup7, asTup8, asTup9, asAgg2, asAgg3, asAgg4, asAgg5, asAgg6, asAgg7, asAgg8, asAgg9, asAgg12, getD0, getD1, getD2, getD3, getD4, getD5, getD6, getD7, getD8, getD9, getD10, getD11, getD12, getD13, getD14, getD15, getD16, getD17, getD18, getD19, Bool.not_true, Bool.not_false, Bool.false_eq_true, Bool.true_eq_false, ↓reduceIte, decide_true, decide_false, Option.isNone_some, Option.isNone_none, Option.isSome_some, Option.isSome_none, beq_self_eq_true, bne_self_eq_false, Bool.and_true, Bool.true_and, Bool.and_false, Bool.false_and, not_true_eq_false, not_false_eq_true]
          · rw [k1] at lk
            have c0' : mLen w (some r) = some (fs.map FE.ab).length := by rw [h3.len]; simp [keysOf]
            by_cases hfull : (fs.map FE.ab).length = 4096
            · have ha : appA (fs.map FE.ab) fuse false n p = (3, fs.map FE.ab, fuse, false) := by
                unfold appA
                rw [if_neg (by decide), if_neg (by omega), if_pos (.inr ⟨k2, hfull⟩)]
              rw [ha]
              refine ⟨w, D, g10_call ?_, h, Chg.refl _ _⟩
              have hq : ((((fs.map FE.ab).length : Nat) : Int) == 4096) = true := by rw [hfull]; rfl
              unfold g10
              simp only [e25, h00, c0, lk, Option.getD_none, hs, hg, addr_add, Nat.zero_add, c3, hw, hg2, c0', hq, obs, asP_pointer, asB_bool, asI_int, asS_string, asSl_slice, asM_map, asTup0, asTup1, asTup2, asTup3, asTup4, asTup5, asTup6, asTup7, asTup8, asTup9, asAgg2, asAgg3, asAgg4, asAgg5, asAgg6, asAgg7, asAgg8, asAgg9, asAgg12, getD0, getD1, getD2, getD3, getD4, getD5, getD6, getD7, getD8, getD9, getD10, getD11, getD12, getD13, getD14, getD15, getD16, getD17, getD18, getD19, Bool.not_true, Bool.not_false, Bool.false_eq_true, Bool.true_eq_false, ↓reduceIte, decide_true, decide_false, Option.isNone_some, Option.isNone_none, Option.isSome_some, Option.isSome_none, beq_self_eq_true, bne_self_eq_false, Bool.and_true, Bool.true_and, Bool.and_false, Bool.false_and, not_true_eq_false, not_false_eq_true]
            · have ha : appA (fs.map FE.ab) fuse false n p = (if tookN fuse p.length < p.length then 9 else 0, fs.map FE.ab ++ [(n, p.take (tookN fuse p.length), 0)], fuseN fuse p.length, decide (tookN fuse p.length < p.length)) := by
                unfold appA
                rw [if_neg (by decide), if_neg (by omega), if_neg (by simp at hfull; simp [k2]; omega), k4]
                rfl
              rw [ha]
              have hq : ((((fs.map FE.ab).length : Nat) : Int) == 4096) = false := by
                have : ¬ (((fs.map FE.ab).length : Nat) : Int) = 4096 := by omega
                simpa using this
              have f1 : Fr [] w (w.alloc (.cells #[.slice none 0 0, .int .i64 0] 63)) := Fr.alloc _
              have nb := Blk.new w [.slice none 0 0, .int .i64 0] 63
              have hz1 : (w.alloc (.cells #[.slice none 0 0, .int .i64 0] 63)).heap.size = w.heap.size + 1 := Array.size_push _
              change Blk (w.alloc (.cells #[.slice none 0 0, .int .i64 0] 63)) _ _ _ at nb
              have g2 := h2.fr f1 (by simp)
              have g3 := h3.fr f1 (by simp)
              have hp1 := SlI.fr2 hp f1 (by simp)
              have d0 : (w.alloc (.cells #[.slice none 0 0, .int .i64 0] 63)).cell? ⟨b, 0, none⟩ = some (.map (some r)) := g2.cell 0
              generalize hw1 : w.alloc (.cells #[.slice none 0 0, .int .i64 0] 63) = w1 at f1 nb hz1 g2 g3 hp1 d0
              obtain ⟨w2, e2, m2, f2⟩ := g3.upd keyOk_str n (.pointer (some ⟨w.heap.size, 0, none⟩))
              rw [insA_new k1] at m2
              have rb : r ≠ b := g3.ne_blk g2
              have rn : r ≠ w.heap.size := g3.ne_blk nb
              have g4 := g2.fr f2 (by simpa using rb.symm)
              have nb2 := nb.fr f2 (by simpa using rn.symm)
              have hp2 := SlI.fr3 hp1 f2 (by intro h0 y hy hm; simp at hm; subst hm; exact hd (by omega) y hy h5)
              have F2 : Fr [r] w w2 := (Fr.mono (Fr.app f1 f2) (by have z0_ := Fr.size f1; have z1_ := Fr.size f2; intro y_ hy_ hl_; grind [blkOf]))
              have z2 := f2.size
              have hfs2 : Fs w2 (fun y => D y ∨ y = w.heap.size) (fs ++ [(⟨n, w.heap.size, (none, 0, 0), [], 0⟩ : FE)]) := h4.push (f := (⟨n, w.heap.size, (none, 0, 0), [], 0⟩ : FE)) k3 F2 (by
                intro y hy j hj
                simp at hy; subst hy
                exact ⟨h3.ne_blk (h4.ok j hj).blk, h3.notin (h4.ok j hj).own⟩) (fun y hy => .inl hy) ⟨nb2, Own.nil _ _ _, by intro z hz; simp at hz, Nat.le_refl _, .inr rfl, by simp [blkOf]⟩ (Nat.le_refl _) (by simp [blkOf])
              have hkk : keysOf fs ++ [(n, .pointer (some ⟨w.heap.size, 0, none⟩))] = keysOf (fs ++ [(⟨n, w.heap.size, (none, 0, 0), [], 0⟩ : FE)]) := by simp [keysOf]
              rw [hkk] at m2
              have hab : (fs ++ [(⟨n, w.heap.size, (none, 0, 0), [], 0⟩ : FE)]).map FE.ab = fs.map FE.ab ++ [(n, [], 0)] := by simp [FE.ab]
              have hus : used ((fs ++ [(⟨n, w.heap.size, (none, 0, 0), [], 0⟩ : FE)]).map FE.ab) = used (fs.map FE.ab) := by rw [hab, used_append]; simp [used]
              obtain ⟨w', D', e, d, c⟩ := mid8 (D := fun y => D y ∨ y = w.heap.size) g4 hus.symm m2 hfs2 (.inl h5) (.inl hDb) (by intro y hy; rcases hy with hy | hy <;> first | (have := hlt y hy; omega) | omega) hfuse (by simp at hfull ⊢; omega) (i := fs.length) (by simp) hp2 hz hc
                (by intro h0 y hy hm; rcases hm with hm | hm
                    · exact hd h0 y hy hm
                    · obtain ⟨bb, off, j1, j2, _⟩ := hp.2 (by omega)
                      simp [blkOf, j1] at hy; omega) (by omega)
              have hgi : (fs ++ [(⟨n, w.heap.size, (none, 0, 0), [], 0⟩ : FE)])[fs.length]'(by simp) = (⟨n, w.heap.size, (none, 0, 0), [], 0⟩ : FE) := by simp
              rw [hgi] at e d
              have hset : ((fs ++ [(⟨n, w.heap.size, (none, 0, 0), [], 0⟩ : FE)]).map FE.ab).set fs.length (n, [] ++ p.take (tookN fuse p.length), 0) = fs.map FE.ab ++ [(n, p.take (tookN fuse p.length), 0)] := by
                rw [hab]
                apply List.ext_getElem
                · simp
                · intro j j1 j2
                  rw [List.getElem_set]
                  split
                  · rename_i hj; subst hj; simp
                  · rename_i hj
                    simp only [List.length_append, List.length_map, List.length_cons, List.length_nil] at j2
                    rw [List.getElem_append_left (by simp; omega), List.getElem_append_left (by simp; omega)]
              rw [hset] at d
              refine ⟨w', D', g10_call ?_, d, ?_⟩
              · unfold g10
                simp only [e25, h00, c0, lk, Option.getD_none, hs, hg, addr_add, Nat.zero_add, c3, hw, hg2, c0', hq, hw1, d0, e2, e, obs, asP_pointer, asB_bool, asI_int, asS_string, asSl_slice, asM_map, asTup0, asTup1, asTup2, asTup3, asTup4, asTup5, asTup6, asTup7, asTup8, asTup9, asAgg2, asAgg3, asAgg4, asAgg5, asAgg6, asAgg7, asAgg8, asAgg9, asAgg12, getD0, getD1, getD2, getD3, getD4, getD5, getD6, getD7, getD8, getD9, getD10, getD11, getD12, getD13, getD14, getD15, getD16, getD17, getD18, getD19, Bool.not_true, Bool.not_false, Bool.false_eq_true, Bool.true_eq_false, ↓reduceIte, decide_true, decide_false, Option.isNone_some, Option.isNone_none, Option.isSome_some, Option.isSome_none, beq_self_eq_true, bne_self_eq_false, Bool.and_true, Bool.true_and, Bool.and_false, Bool.false_and, not_true_eq_false, not_false_eq_true]
              · obtain ⟨S, cf, cS⟩ := c.fr
                refine Chg.trans ⟨⟨[r], F2, by intro y hy; simp at hy; subst hy; exact h5⟩, fun y hy => .inl hy, fun y hy => by rcases hy with hy | hy <;> first | exact .inl hy | (right; omega)⟩ c hlt
end
end Go.Proofs.Ytkmidlhnlnolnaa
