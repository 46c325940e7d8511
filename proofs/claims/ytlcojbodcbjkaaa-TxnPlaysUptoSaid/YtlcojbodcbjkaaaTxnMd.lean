/-
  TxnMd: lemmas on what Go functions of this seat come to (for whatever arguments, as each says). No condition but those that stand in each lemma.
-/
import Derived.Test.YtlcojbodcbjkaaaTxnWg
namespace Go.Proofs.Ytlcojbodcbjkaaa
open Go Go.Ev
set_option maxRecDepth 100000
set_option linter.unusedVariables false
set_option linter.unusedSimpArgs false

theorem t26 : TSl Try.prog 26 30 7 72 := tsl_of Try.underlying26 (by kernel_rfl)

theorem blk_ldN {w : World} {g : Nat} {cs : List Value} {T : TypeId} (h : Blk w g cs T) {i n : Nat} {l : List Value} (hl : l.length = n) (hc : ∀ j, j < n → cs[i + j]? = l[j]?) : ldN w ⟨g, i, none⟩ 0 n = some l := by
  have : CellsAt w ⟨g, i, none⟩ l := by
    intro j hj
    rw [addr_add, h.cell (i + j), hc j (by omega)]
    exact List.getElem?_eq_getElem hj
  exact this.ldN hl

theorem initP_parts (t : TV) (n inc pid : Int) : (initP t n inc pid).1.parts = [] := by
  unfold initP; (repeat' split) <;> rfl
theorem addP_parts (t : TV) (n pid ep part : Int) : (addP t n pid ep part).1.parts.length ≤ 1 := by
  unfold addP; (repeat' split) <;> simp [rv0]
theorem endP_parts (t : TV) (n pid ep : Int) (c : Bool) : (endP t n pid ep c).1.parts = [] := by
  unfold endP; (repeat' split) <;> rfl

section
variable {W x : World} {tb : Nat} {D DL : Nat → Prop} {A : List (Int × TV)} {ql : Sh} {L : List (RV × Sh)}

theorem PS.apply (h : PS W x tb D DL A ql L) {r : RV} {q : Sh} (sl : SlC x 1 q (intsV' r.parts)) (hq : 0 < r.parts.length → ∀ y ∈ blkOf q, ¬ D y ∧ y < x.heap.size) (hn : sumP (recs L) + r.parts.length ≤ 100000000) :
    ∃ x' D', callF Try.prog 13 #[.pointer (some ⟨tb, 0, none⟩), r.arg q] x = some (.tuple #[], x') ∧ Tb x' D' tb (apA A r) ∧ Chg D x x' D' := by
  refine apply13 h.tab sl hq (fun _ => ?_)
  rw [h.says r.tx]
  have := txOf_len (recs L) r.tx
  omega

/-- a record goes into the table and behind the list -/
theorem PS.push (h : PS W x tb D DL A ql L) {y : World} {D' : Nat → Prop} {r : RV} (ht : Tb y D' tb (apA A r)) (hrl : RL y DL ql L) (hfr : Fr [] W y) (hD' : ∀ z, D' z → W.heap.size ≤ z) (hap : ∀ z, D' z → ¬ DL z) {v : Sh} (sl : SlC y 1 v (intsV' r.parts))
    (hv : 0 < r.parts.length → ∀ z ∈ blkOf v, z < y.heap.size ∧ ¬ DL z ∧ ¬ D' z ∧ W.heap.size ≤ z) (hlen : L.length ≤ 10000000) (hs : sumP (recs L) + r.parts.length ≤ 100000000) :
    ∃ q' y' DL', callB Try.prog .append #[26, 26] 26 #[false, false] #[.slice ql.1 ql.2.1 ql.2.2, .slice (some ⟨y.heap.size, 0, none⟩) 1 1] (y.alloc (.cells #[.int .i64 r.k, .int .i64 r.tx, .int .i64 r.inc, .int .u64 r.pid, .int .i64 r.ep, .slice v.1 v.2.1 v.2.2, .bool r.com] 30)) = some (.slice q'.1 q'.2.1 q'.2.2, y') ∧
      PS W y' tb D' DL' (apA A r) q' (L ++ [(r, v)]) ∧ Fr (blkOf ql) y y' ∧ ∀ z, DL' z → DL z ∨ y.heap.size ≤ z ∨ (0 < r.parts.length ∧ z ∈ blkOf v) := by
  have hml : maxLen = 9223372036854775807 := by decide
  have hql := hrl.len
  obtain ⟨q', y', e, o, f, nb, hl⟩ := app_one t26 hrl.own (ys := r.cs v) rfl (rvcs_oc r v) (by omega) (by omega) 26 #[false, false]
  have z := f.size
  have olt := own_lt o
  have tlt := ht.lt
  have inDL : ∀ z ∈ blkOf ql, DL z := hrl.reg
  have slv : SlC y' 1 v (intsV' r.parts) := sl.fr f (fun h0 z hz hm => (hv (by simpa using h0) z hz).2.1 (inDL z hm))
  refine ⟨q', y', fun z => DL z ∨ z ∈ blkOf q' ∨ (0 < r.parts.length ∧ z ∈ blkOf v), e, ⟨?_, ⟨?_, ?_, ?_, ?_, ?_, ?_⟩, ?_, ?_, ?_, hD', ?_, ?_⟩, f, ?_⟩
  · exact ht.fr f (fun z hz _ hd => hap z hd (inDL z hz))
  · have : ((L ++ [(r, v)]).map recCs).flatten = (L.map recCs).flatten ++ r.cs v := by simp [recCs]
    rw [this]; exact o
  · intro e' he'
    rw [List.mem_append] at he'
    rcases he' with he' | he'
    · exact (hrl.els e' he').fr f (fun h0 z hz => hrl.apart e' he' (by simpa using h0) z hz)
    · simp at he'; subst he'; exact slv
  · intro z hz; exact .inr (.inl hz)
  · intro e' he' h0 z hz
    rw [List.mem_append] at he'
    rcases he' with he' | he'
    · exact .inl (hrl.regs e' he' h0 z hz)
    · simp at he'; subst he'; exact .inr (.inr ⟨h0, hz⟩)
  · intro e' he' h0 z hz hm
    rw [List.mem_append] at he'
    rcases he' with he' | he'
    · rcases nb z hm with hh | hh
      · exact hrl.apart e' he' h0 z hz hh
      · have := hrl.lt z (hrl.regs e' he' h0 z hz); omega
    · simp at he'; subst he'
      have hvz := hv h0 z hz
      rcases nb z hm with hh | hh
      · exact hvz.2.1 (inDL z hh)
      · omega
  · rintro z (hz | hz | ⟨h0, hz⟩)
    · have := hrl.lt z hz; omega
    · exact olt z hz
    · have := (hv h0 z hz).1; omega
  · have : recs (L ++ [(r, v)]) = recs L ++ [r] := by unfold recs; rw [List.map_append]; rfl
    rw [this]; exact h.says.snoc r
  · rintro z hd (hz | hz | ⟨h0, hz⟩)
    · exact hap z hd hz
    · rcases nb z hz with hh | hh
      · exact hap z hd (inDL z hh)
      · have := tlt z hd; omega
    · exact (hv h0 z hz).2.2.1 hd
  · exact (hfr.app f).mono (by intro z hz hl; simp at hz; have := h.hL z (inDL z hz); omega)
  · rintro z (hz | hz | ⟨h0, hz⟩)
    · exact h.hL z hz
    · rcases nb z hz with hh | hh
      · exact h.hL z (inDL z hh)
      · have := hfr.size; omega
    · exact (hv h0 z hz).2.2.2
  · have : recs (L ++ [(r, v)]) = recs L ++ [r] := by unfold recs; rw [List.map_append]; rfl
    rw [this, sumP_snoc]; exact hs
  · rintro z (hz | hz | hz)
    · exact .inl hz
    · rcases nb z hz with hh | hh
      · exact .inl (inDL z hh)
      · exact .inr (.inl hh)
    · exact .inr (.inr hz)
end

/-- the record within an Op -/
def OV.re (o : OV) (l : List Int) : RV := ⟨o.rk, o.rtx, o.rinc, o.rpid, o.rep, l, o.rcom⟩
end Go.Proofs.Ytlcojbodcbjkaaa

namespace Go.Proofs.Ytlcojbodcbjkaaa
open Go Go.Ev
set_option maxRecDepth 100000
set_option linter.unusedVariables false
set_option linter.unusedSimpArgs false

/-- the beginning of a round: the call, and two empty records -/
theorem beg (x : World) (o : OV) : ∃ x1 x2 x3, stL (x.alloc (.cells #[.int .i64 0, .int .i64 0, .int .i64 0, .int .i64 0, .int .i64 0, .int .u64 0, .bool false, .bool false, .int .i64 0, .int .i64 0, .int .i64 0, .int .u64 0, .int .i64 0, .slice none 0 0, .bool false] 32)) ⟨x.heap.size, 0, none⟩ [.int .i64 o.k, .int .i64 o.n, .int .i64 o.inc, .int .i64 o.ep, .int .i64 o.part, .int .u64 o.pid, .bool o.com, .bool o.doit, .int .i64 o.rk, .int .i64 o.rtx, .int .i64 o.rinc, .int .u64 o.rpid, .int .i64 o.rep, .slice o.rq.1 o.rq.2.1 o.rq.2.2, .bool o.rcom] 0 = some x1 ∧ x1.alloc (.cells #[.int .i64 0, .int .i64 0, .int .i64 0, .int .u64 0, .int .i64 0, .slice none 0 0, .bool false] 30) = x2 ∧ x2.alloc (.cells #[.int .i64 0, .int .i64 0, .int .i64 0, .int .u64 0, .int .i64 0, .slice none 0 0, .bool false] 30) = x3 ∧
    Blk x3 x.heap.size o.cs 32 ∧ Blk x3 x1.heap.size (rv0.cs (none, 0, 0)) 30 ∧ Blk x3 x2.heap.size (rv0.cs (none, 0, 0)) 30 ∧ Fr [] x x3 ∧ x.heap.size < x1.heap.size ∧ x1.heap.size < x2.heap.size := by
  obtain ⟨x1, s1, b1, f1, d1⟩ := newO x o
  obtain ⟨bA, fA⟩ := zero30 x1
  have zA : (x1.alloc (.cells #[.int .i64 0, .int .i64 0, .int .i64 0, .int .u64 0, .int .i64 0, .slice none 0 0, .bool false] 30)).heap.size = x1.heap.size + 1 := Array.size_push _
  obtain ⟨x2, h2⟩ : ∃ x2, x1.alloc (.cells #[.int .i64 0, .int .i64 0, .int .i64 0, .int .u64 0, .int .i64 0, .slice none 0 0, .bool false] 30) = x2 := ⟨_, rfl⟩
  rw [h2] at bA fA zA
  obtain ⟨bB, fB⟩ := zero30 x2
  obtain ⟨x3, h3⟩ : ∃ x3, x2.alloc (.cells #[.int .i64 0, .int .i64 0, .int .i64 0, .int .u64 0, .int .i64 0, .slice none 0 0, .bool false] 30) = x3 := ⟨_, rfl⟩
  rw [h3] at bB fB
  have l1 := b1.lt
  exact ⟨x1, x2, x3, s1, h2, h3, (b1.fr fA (by simp)).fr fB (by simp), bA.fr fB (by simp), bB, (Fr.mono (Fr.app (Fr.app f1 fA) fB) (by have z0_ := Fr.size f1; have z1_ := Fr.size fA; have z2_ := Fr.size fB; intro y_ hy_ hl_; grind [blkOf])), l1, by omega⟩

section
variable {W x : World} {tb : Nat} {D DL : Nat → Prop} {A : List (Int × TV)} {ql : Sh} {L : List (RV × Sh)} {u0 : Sh} {a : Addr}

theorem op1 (h : PS W x tb D DL A ql L) (o : OV) (hk : o.k = 1) {k : Nat} (hkk : (k : Int) < (u0.2.1 : Int)) (hu : u0.2.1 ≤ 9223372036854775807) (i1 : idxA u0.1 u0.2.1 15 (k : Int) = some a) (l1 : ldN x a 0 15 = some o.cs) (hlen : L.length ≤ 10000000) (hs : sumP (recs L) + 1 ≤ 100000000) :
    ∃ x' D' DL' A' ql' L', g3_l6_b u0 (some ⟨tb, 0, none⟩) (false, ql, (k : Int)) x = some (.normal, (false, ql', ((k + 1 : Nat) : Int)), x') ∧ PS W x' tb D' DL' A' ql' L' ∧ sumP (recs L') ≤ sumP (recs L) + 1 ∧ L'.length ≤ L.length + 1 := by
  have z0 := h.fr.size
  have lt := h.tab.lt
  have ltL := h.rl.lt
  obtain ⟨x1, x2, x3, s1, hA, hB, bo3, bX3, bY3, F3, z1, z2⟩ := beg x o
  have h3 := h.step F3 (by simp)
  have freshO : W.heap.size ≤ x.heap.size ∧ ¬ D x.heap.size ∧ ¬ DL x.heap.size := ⟨z0, fun hd => by have := lt _ hd; omega, fun hd => by have := ltL _ hd; omega⟩
  have freshX : W.heap.size ≤ x1.heap.size ∧ ¬ D x1.heap.size ∧ ¬ DL x1.heap.size := ⟨by omega, fun hd => by have := lt _ hd; omega, fun hd => by have := ltL _ hd; omega⟩
  have freshY : W.heap.size ≤ x2.heap.size ∧ ¬ D x2.heap.size ∧ ¬ DL x2.heap.size := ⟨by omega, fun hd => by have := lt _ hd; omega, fun hd => by have := ltL _ hd; omega⟩
  have lX := bX3.lt
  have lY := bY3.lt
  obtain ⟨x4, e4, f4⟩ := init14 h3.tab o.n o.inc o.pid (h3.lenM o.n)
  obtain ⟨q4, hq4⟩ : ∃ q4 : Sh, q4 = (none, 0, 0) := ⟨_, rfl⟩
  rw [← hq4] at e4
  have m4 : ∀ y ∈ blkOf q4, x3.heap.size ≤ y := by rw [hq4]; simp [blkOf]
  have sl4 : SlC x4 1 q4 (intsV' (initP (tvOf A o.n) o.n o.inc o.pid).1.parts) := by rw [initP_parts, hq4]; exact ⟨rfl, by simp⟩
  have hRp : (initP (tvOf A o.n) o.n o.inc o.pid).1.parts.length ≤ 1 := by rw [initP_parts]; simp
  obtain ⟨R, hR⟩ : ∃ R, initP (tvOf A o.n) o.n o.inc o.pid = R := ⟨_, rfl⟩
  rw [hR] at e4 sl4 hRp
  obtain ⟨x5, s5, bX5, f5⟩ := (bX3.fr f4 (by simp)).stL (vs := R.1.cs q4) rfl (rvcs_oc _ _)
  have z3 := F3.size
  have z4 := f4.size
  have z5 := f5.size
  have h5 := (h3.step f4 (by simp)).step f5 (by intro y hy; simp at hy; subst hy; exact freshX)
  have bo5 := (bo3.fr f4 (by simp)).fr f5 (by simp; omega)
  have bY5 := (bY3.fr f4 (by simp)).fr f5 (by simp; omega)
  have sl5 := sl4.fr f5 (fun h0 y hy hm => by simp at hm; have := m4 y hy; omega)
  obtain ⟨r6, e6, q6, hr6, f6, sl6, m6⟩ := init15 h5.rl o.n o.inc o.pid h5.sum
  rw [← h5.says, hR] at hr6 sl6
  obtain ⟨v6, x6⟩ := r6
  simp only at hr6 f6 sl6
  subst hr6
  obtain ⟨x7, s7, bY7, f7⟩ := (bY5.fr f6 (by simp)).stL (vs := R.1.cs q6) rfl (rvcs_oc _ _)
  have z6 := f6.size
  have z7 := f7.size
  have h7 := (h5.step f6 (by simp)).step f7 (by intro y hy; simp at hy; subst hy; exact freshY)
  have bX7 := (bX5.fr f6 (by simp)).fr f7 (by simp; omega)
  have bo7 := (bo5.fr f6 (by simp)).fr f7 (by simp; omega)
  have slq7 : SlC x7 1 q4 (intsV' R.1.parts) := (sl5.fr f6 (fun _ y _ => by simp)).fr f7 (fun h0 y hy hm => by simp at hm; have := m4 y hy; omega)
  have slr7 := sl6.fr f7 (fun h0 y hy hm => by simp at hm; have := m6 y hy; omega)
  obtain ⟨x8, e8, f8⟩ := sameRec20 x7 R.1 slq7 slr7 (by omega)
  have z8 := f8.size
  have h8 := h7.step f8 (by simp)
  have bX8 := bX7.fr f8 (by simp)
  have bY8 := bY7.fr f8 (by simp)
  have bo8 := bo7.fr f8 (by simp)
  have slq8 := slq7.fr f8 (fun _ y _ => by simp)
  have slr8 := slr7.fr f8 (fun _ y _ => by simp)
  have lX7 := bX7.ldN (n := 7) rfl
  have lY7 := bY7.ldN (n := 7) rfl
  have lX8 := bX8.ldN (n := 7) rfl
  have k1 : decide ((k : Int) < (u0.2.1 : Int)) = true := by simp; omega
  have k01 : (o.k == 0) = false := by simp [hk]
  have k11 : (o.k == 1) = true := by simp [hk]
  have hw := wrap_succ (n := k) (by omega)
  have o0 : x3.cell? ⟨x.heap.size, 0, none⟩ = some (.int .i64 o.k) := bo3.cell 0
  have pn : x3.cell? ⟨x.heap.size, 1, none⟩ = some (.int .i64 o.n) := bo3.cell 1
  have pinc : x3.cell? ⟨x.heap.size, 2, none⟩ = some (.int .i64 o.inc) := bo3.cell 2
  have ppid : x3.cell? ⟨x.heap.size, 5, none⟩ = some (.int .u64 o.pid) := bo3.cell 5
  have rn : x5.cell? ⟨x.heap.size, 1, none⟩ = some (.int .i64 o.n) := bo5.cell 1
  have rinc : x5.cell? ⟨x.heap.size, 2, none⟩ = some (.int .i64 o.inc) := bo5.cell 2
  have rpid : x5.cell? ⟨x.heap.size, 5, none⟩ = some (.int .u64 o.pid) := bo5.cell 5
  have d7 : x8.cell? ⟨x.heap.size, 7, none⟩ = some (.bool o.doit) := bo8.cell 7
  have d1 : x8.cell? ⟨x.heap.size, 1, none⟩ = some (.int .i64 o.n) := bo8.cell 1
  have d9 : x8.cell? ⟨x.heap.size, 8 + 1, none⟩ = some (.int .i64 o.rtx) := bo8.cell 9
  obtain ⟨r, ok, er⟩ := R
  have bb : (ok == ok) = true := by simp
  have be : ((er : Int) != er) = false := by simp
  simp only [RV.arg] at e4 e6 e8
  simp only [RV.cs] at s5 s7 lX7 lY7 lX8
  simp only [OV.cs] at l1
  -- without a record, or where it is not to be done
  have stay : ∀ (v : Value), ∃ y, Blk y x8.heap.size [.int .i64 o.n, .int .i64 o.rtx] 3 ∧ x8.alloc (.cells #[.int .i64 o.n, .int .i64 o.rtx] 3) = y ∧ PS W y tb D DL A ql L := by
    intro v
    have fa : Fr [] x8 (x8.alloc (.cells #[.int .i64 o.n, .int .i64 o.rtx] 3)) := Fr.alloc _
    exact ⟨_, Blk.new x8 [.int .i64 o.n, .int .i64 o.rtx] 3, rfl, h8.step fa (by simp)⟩
  obtain ⟨y9, by9, hy9, P9⟩ := stay .nilIface
  have sR : sumP (recs L) ≤ sumP (recs L) + 1 := by omega
  cases ok with
  | false =>
    obtain ⟨x', e', P'⟩ := tl516 (f0 := false) (f := false) (k0 := (k : Int)) (u0 := u0) (r := (.bool true, x8)) P9 by9
    refine ⟨x', D, DL, A, ql, L, ?_, P', sR, by omega⟩
    unfold g3_l6_b
    simp only [k1, i1, l1, s1, hA, hB, addr_add, Nat.zero_add, o0, k01, k11, pn, pinc, ppid, obs, asP_pointer, asB_bool, asI_int, asS_string, asSl_slice, asM_map, asTup0, asTup1, asTup2, asTup3, asTup4, asTup5, asTup6, asTup7, asTup8, asTup9, asAgg2, asAgg3, asAgg4, asAgg5, asAgg6, asAgg7, asAgg8, asAgg9, asAgg12, getD0, getD1, getD2, getD3, getD4, getD5, getD6, getD7, getD8, getD9, getD10, getD11, getD12, getD13, getD14, getD15, getD16, getD17, getD18, getD19, Bool.not_true, Bool.not_false, Bool.false_eq_true, Bool.true_eq_false, ↓reduceIte, decide_true, decide_false, Option.isNone_some, Option.isNone_none, Option.isSome_some, Option.isSome_none, beq_self_eq_true, bne_self_eq_false, Bool.and_true, Bool.true_and, Bool.and_false, Bool.false_and, not_true_eq_false, not_false_eq_true]
    simp only [e4, s5, rn, rinc, rpid, addr_add, Nat.zero_add, e6, s7, bb, be, obs, asP_pointer, asB_bool, asI_int, asS_string, asSl_slice, asM_map, asTup0, asTup1, asTup2, asTup3, asTup4, asTup5, asTup6, asTup7, asTup8, asTup9, asAgg2, asAgg3, asAgg4, asAgg5, asAgg6, asAgg7, asAgg8, asAgg9, asAgg12, getD0, getD1, getD2, getD3, getD4, getD5, getD6, getD7, getD8, getD9, getD10, getD11, getD12, getD13, getD14, getD15, getD16, getD17, getD18, getD19, Bool.not_true, Bool.not_false, Bool.false_eq_true, Bool.true_eq_false, ↓reduceIte, decide_true, decide_false, Option.isNone_some, Option.isNone_none, Option.isSome_some, Option.isSome_none, beq_self_eq_true, bne_self_eq_false, Bool.and_true, Bool.true_and, Bool.and_false, Bool.false_and, not_true_eq_false, not_false_eq_true]
    simp only [lX7, lY7, e8, d1, d9, addr_add, Nat.zero_add, hy9, obs, asP_pointer, asB_bool, asI_int, asS_string, asSl_slice, asM_map, asTup0, asTup1, asTup2, asTup3, asTup4, asTup5, asTup6, asTup7, asTup8, asTup9, asAgg2, asAgg3, asAgg4, asAgg5, asAgg6, asAgg7, asAgg8, asAgg9, asAgg12, getD0, getD1, getD2, getD3, getD4, getD5, getD6, getD7, getD8, getD9, getD10, getD11, getD12, getD13, getD14, getD15, getD16, getD17, getD18, getD19, Bool.not_true, Bool.not_false, Bool.false_eq_true, Bool.true_eq_false, ↓reduceIte, decide_true, decide_false, Option.isNone_some, Option.isNone_none, Option.isSome_some, Option.isSome_none, beq_self_eq_true, bne_self_eq_false, Bool.and_true, Bool.true_and, Bool.and_false, Bool.false_and, not_true_eq_false, not_false_eq_true]
    rw [hw] at e'
    exact e'
  | true =>
    cases hdo : o.doit with
    | false =>
      rw [hdo] at d7
      obtain ⟨x', e', P'⟩ := tl409 (f0 := false) (f := false) (k0 := (k : Int)) (u0 := u0) (r := (.bool true, x8)) P9 by9
      refine ⟨x', D, DL, A, ql, L, ?_, P', sR, by omega⟩
      unfold g3_l6_b
      simp only [k1, i1, l1, s1, hA, hB, addr_add, Nat.zero_add, o0, k01, k11, pn, pinc, ppid, obs, asP_pointer, asB_bool, asI_int, asS_string, asSl_slice, asM_map, asTup0, asTup1, asTup2, asTup3, asTup4, asTup5, asTup6, asTup7, asTup8, asTup9, asAgg2, asAgg3, asAgg4, asAgg5, asAgg6, asAgg7, asAgg8, asAgg9, asAgg12, getD0, getD1, getD2, getD3, getD4, getD5, getD6, getD7, getD8, getD9, getD10, getD11, getD12, getD13, getD14, getD15, getD16, getD17, getD18, getD19, Bool.not_true, Bool.not_false, Bool.false_eq_true, Bool.true_eq_false, ↓reduceIte, decide_true, decide_false, Option.isNone_some, Option.isNone_none, Option.isSome_some, Option.isSome_none, beq_self_eq_true, bne_self_eq_false, Bool.and_true, Bool.true_and, Bool.and_false, Bool.false_and, not_true_eq_false, not_false_eq_true]
      simp only [e4, s5, rn, rinc, rpid, addr_add, Nat.zero_add, e6, s7, bb, be, obs, asP_pointer, asB_bool, asI_int, asS_string, asSl_slice, asM_map, asTup0, asTup1, asTup2, asTup3, asTup4, asTup5, asTup6, asTup7, asTup8, asTup9, asAgg2, asAgg3, asAgg4, asAgg5, asAgg6, asAgg7, asAgg8, asAgg9, asAgg12, getD0, getD1, getD2, getD3, getD4, getD5, getD6, getD7, getD8, getD9, getD10, getD11, getD12, getD13, getD14, getD15, getD16, getD17, getD18, getD19, Bool.not_true, Bool.not_false, Bool.false_eq_true, Bool.true_eq_false, ↓reduceIte, decide_true, decide_false, Option.isNone_some, Option.isNone_none, Option.isSome_some, Option.isSome_none, beq_self_eq_true, bne_self_eq_false, Bool.and_true, Bool.true_and, Bool.and_false, Bool.false_and, not_true_eq_false, not_false_eq_true]
      simp only [lX7, lY7, e8, d7, d1, d9, addr_add, Nat.zero_add, hy9, obs, asP_pointer, asB_bool, asI_int, asS_string, asSl_slice, asM_map, asTup0, asTup1, asTup2, asTup3, asTup4, asTup5, asTup6, asTup7, asTup8, asTup9, asAgg2, asAgg3, asAgg4, asAgg5, asAgg6, asAgg7, asAgg8, asAgg9, asAgg12, getD0, getD1, getD2, getD3, getD4, getD5, getD6, getD7, getD8, getD9, getD10, getD11, getD12, getD13, getD14, getD15, getD16, getD17, getD18, getD19, Bool.not_true, Bool.not_false, Bool.false_eq_true, Bool.true_eq_false, ↓reduceIte, decide_true, decide_false, Option.isNone_some, Option.isNone_none, Option.isSome_some, Option.isSome_none, beq_self_eq_true, bne_self_eq_false, Bool.and_true, Bool.true_and, Bool.and_false, Bool.false_and, not_true_eq_false, not_false_eq_true]
      rw [hw] at e'
      exact e'
    | true =>
      rw [hdo] at d7
      simp only at hRp slq8 slr8
      obtain ⟨x9, D9, e9, t9, c9⟩ := h8.apply (r := r) slq8 (fun h0 y hy => ⟨fun hd => by have := m4 y hy; have := h.tab.lt y hd; omega, slq8.lt (by simpa using h0) y hy⟩) (by omega)
      obtain ⟨S, f9, hS⟩ := c9.fr
      have z9 := f9.size
      have rl9 : RL x9 DL ql L := h8.rl.fr f9 (fun y hy _ => h8.ap y (hS y hy))
      have bY9 := bY8.fr f9 (fun hm => freshY.2.1 (hS _ hm))
      have bo9 := bo8.fr f9 (fun hm => freshO.2.1 (hS _ hm))
      have slr9 := slr8.fr f9 (fun h0 y hy hm => by have := hS y hm; have := h.tab.lt y this; have := m6 y hy; omega)
      have lY9 := bY9.ldN (n := 7) rfl
      have nD9 : ∀ y, D9 y → D y ∨ x8.heap.size ≤ y := c9.new
      obtain ⟨q10, x10, DL10, e10, P10, f10, d10⟩ := h8.push (y := x9) (D' := D9) (r := r) t9 rl9 ((h8.fr.app f9).mono (by intro y hy hl; simp at hy; have := h.hD y (hS y hy); omega)) (fun y hy => by
        rcases nD9 y hy with hh | hh
        · exact h.hD y hh
        · have := h8.fr.size; omega) (fun y hy hl => by
        rcases nD9 y hy with hh | hh
        · exact h.ap y hh hl
        · have := h8.rl.lt y hl; omega) (v := q6) slr9 (fun h0 y hy => ⟨slr9.lt (by simpa using h0) y hy, fun hd => by have := m6 y hy; have := h.rl.lt y hd; omega, fun hd => by
          have hy8 := slr8.lt (by simpa using h0) y hy
          rcases nD9 y hd with hh | hh
          · have := m6 y hy; have := h.tab.lt y hh; omega
          · omega, by have := m6 y hy; omega⟩) hlen (by omega)
      have bo10 := bo9.fr f10 (fun hm => freshO.2.2 (h.rl.reg _ hm))
      have fa : Fr [] x10 (x10.alloc (.cells #[.int .i64 o.n, .int .i64 o.rtx] 3)) := Fr.alloc _
      have P11 := P10.step fa (by simp)
      obtain ⟨x', e', P'⟩ := tl302 (f0 := false) (f := false) (k0 := (k : Int)) (qs := ql) (u0 := u0) (r := (.slice q10.1 q10.2.1 q10.2.2, x10)) P11 (Blk.new x10 [.int .i64 o.n, .int .i64 o.rtx] 3)
      have d1' : x10.cell? ⟨x.heap.size, 1, none⟩ = some (.int .i64 o.n) := bo10.cell 1
      have d9' : x10.cell? ⟨x.heap.size, 8 + 1, none⟩ = some (.int .i64 o.rtx) := bo10.cell 9
      have hrec : recs (L ++ [(r, q6)]) = recs L ++ [r] := by unfold recs; rw [List.map_append]; rfl
      refine ⟨x', D9, DL10, _, q10, _, ?_, P', by rw [hrec, sumP_snoc]; omega, by simp⟩
      simp only [RV.arg] at e9
      simp only [RV.cs] at lY9
      unfold g3_l6_b
      simp only [k1, i1, l1, s1, hA, hB, addr_add, Nat.zero_add, o0, k01, k11, pn, pinc, ppid, obs, asP_pointer, asB_bool, asI_int, asS_string, asSl_slice, asM_map, asTup0, asTup1, asTup2, asTup3, asTup4, asTup5, asTup6, asTup7, asTup8, asTup9, asAgg2, asAgg3, asAgg4, asAgg5, asAgg6, asAgg7, asAgg8, asAgg9, asAgg12, getD0, getD1, getD2, getD3, getD4, getD5, getD6, getD7, getD8, getD9, getD10, getD11, getD12, getD13, getD14, getD15, getD16, getD17, getD18, getD19, Bool.not_true, Bool.not_false, Bool.false_eq_true, Bool.true_eq_false, ↓reduceIte, decide_true, decide_false, Option.isNone_some, Option.isNone_none, Option.isSome_some, Option.isSome_none, beq_self_eq_true, bne_self_eq_false, Bool.and_true, Bool.true_and, Bool.and_false, Bool.false_and, not_true_eq_false, not_false_eq_true]
      simp only [e4, s5, rn, rinc, rpid, addr_add, Nat.zero_add, e6, s7, bb, be, obs, asP_pointer, asB_bool, asI_int, asS_string, asSl_slice, asM_map, asTup0, asTup1, asTup2, asTup3, asTup4, asTup5, asTup6, asTup7, asTup8, asTup9, asAgg2, asAgg3, asAgg4, asAgg5, asAgg6, asAgg7, asAgg8, asAgg9, asAgg12, getD0, getD1, getD2, getD3, getD4, getD5, getD6, getD7, getD8, getD9, getD10, getD11, getD12, getD13, getD14, getD15, getD16, getD17, getD18, getD19, Bool.not_true, Bool.not_false, Bool.false_eq_true, Bool.true_eq_false, ↓reduceIte, decide_true, decide_false, Option.isNone_some, Option.isNone_none, Option.isSome_some, Option.isSome_none, beq_self_eq_true, bne_self_eq_false, Bool.and_true, Bool.true_and, Bool.and_false, Bool.false_and, not_true_eq_false, not_false_eq_true]
      simp only [lX7, lY7, e8, d7, lX8, e9, lY9, e10, d1', d9', addr_add, Nat.zero_add, obs, asP_pointer, asB_bool, asI_int, asS_string, asSl_slice, asM_map, asTup0, asTup1, asTup2, asTup3, asTup4, asTup5, asTup6, asTup7, asTup8, asTup9, asAgg2, asAgg3, asAgg4, asAgg5, asAgg6, asAgg7, asAgg8, asAgg9, asAgg12, getD0, getD1, getD2, getD3, getD4, getD5, getD6, getD7, getD8, getD9, getD10, getD11, getD12, getD13, getD14, getD15, getD16, getD17, getD18, getD19, Bool.not_true, Bool.not_false, Bool.false_eq_true, Bool.true_eq_false, ↓reduceIte, decide_true, decide_false, Option.isNone_some, Option.isNone_none, Option.isSome_some, Option.isSome_none, beq_self_eq_true, bne_self_eq_false, Bool.and_true, Bool.true_and, Bool.and_false, Bool.false_and, not_true_eq_false, not_false_eq_true]
      rw [hw] at e'
      exact e'

theorem op2 (h : PS W x tb D DL A ql L) (o : OV) (hk : o.k = 2) {k : Nat} (hkk : (k : Int) < (u0.2.1 : Int)) (hu : u0.2.1 ≤ 9223372036854775807) (i1 : idxA u0.1 u0.2.1 15 (k : Int) = some a) (l1 : ldN x a 0 15 = some o.cs) (hlen : L.length ≤ 10000000) (hs : sumP (recs L) + 1 ≤ 100000000) :
    ∃ x' D' DL' A' ql' L', g3_l6_b u0 (some ⟨tb, 0, none⟩) (false, ql, (k : Int)) x = some (.normal, (false, ql', ((k + 1 : Nat) : Int)), x') ∧ PS W x' tb D' DL' A' ql' L' ∧ sumP (recs L') ≤ sumP (recs L) + 1 ∧ L'.length ≤ L.length + 1 := by
  have z0 := h.fr.size
  have lt := h.tab.lt
  have ltL := h.rl.lt
  obtain ⟨x1, x2, x3, s1, hA, hB, bo3, bX3, bY3, F3, z1, z2⟩ := beg x o
  have h3 := h.step F3 (by simp)
  have freshO : W.heap.size ≤ x.heap.size ∧ ¬ D x.heap.size ∧ ¬ DL x.heap.size := ⟨z0, fun hd => by have := lt _ hd; omega, fun hd => by have := ltL _ hd; omega⟩
  have freshX : W.heap.size ≤ x1.heap.size ∧ ¬ D x1.heap.size ∧ ¬ DL x1.heap.size := ⟨by omega, fun hd => by have := lt _ hd; omega, fun hd => by have := ltL _ hd; omega⟩
  have freshY : W.heap.size ≤ x2.heap.size ∧ ¬ D x2.heap.size ∧ ¬ DL x2.heap.size := ⟨by omega, fun hd => by have := lt _ hd; omega, fun hd => by have := ltL _ hd; omega⟩
  have lX := bX3.lt
  have lY := bY3.lt
  obtain ⟨q4, x4, e4, f4, sl4, m4⟩ := add16 h3.tab o.n o.pid o.ep o.part (h3.lenM o.n)
  have hRp : (addP (tvOf A o.n) o.n o.pid o.ep o.part).1.parts.length ≤ 1 := addP_parts ..
  obtain ⟨R, hR⟩ : ∃ R, addP (tvOf A o.n) o.n o.pid o.ep o.part = R := ⟨_, rfl⟩
  rw [hR] at e4 sl4 hRp
  obtain ⟨x5, s5, bX5, f5⟩ := (bX3.fr f4 (by simp)).stL (vs := R.1.cs q4) rfl (rvcs_oc _ _)
  have z3 := F3.size
  have z4 := f4.size
  have z5 := f5.size
  have h5 := (h3.step f4 (by simp)).step f5 (by intro y hy; simp at hy; subst hy; exact freshX)
  have bo5 := (bo3.fr f4 (by simp)).fr f5 (by simp; omega)
  have bY5 := (bY3.fr f4 (by simp)).fr f5 (by simp; omega)
  have sl5 := sl4.fr f5 (fun h0 y hy hm => by simp at hm; have := m4 y hy; omega)
  obtain ⟨r6, e6, q6, hr6, f6, sl6, m6⟩ := add17 h5.rl o.n o.pid o.ep o.part h5.sum
  rw [← h5.says, hR] at hr6 sl6
  obtain ⟨v6, x6⟩ := r6
  simp only at hr6 f6 sl6
  subst hr6
  obtain ⟨x7, s7, bY7, f7⟩ := (bY5.fr f6 (by simp)).stL (vs := R.1.cs q6) rfl (rvcs_oc _ _)
  have z6 := f6.size
  have z7 := f7.size
  have h7 := (h5.step f6 (by simp)).step f7 (by intro y hy; simp at hy; subst hy; exact freshY)
  have bX7 := (bX5.fr f6 (by simp)).fr f7 (by simp; omega)
  have bo7 := (bo5.fr f6 (by simp)).fr f7 (by simp; omega)
  have slq7 : SlC x7 1 q4 (intsV' R.1.parts) := (sl5.fr f6 (fun _ y _ => by simp)).fr f7 (fun h0 y hy hm => by simp at hm; have := m4 y hy; omega)
  have slr7 := sl6.fr f7 (fun h0 y hy hm => by simp at hm; have := m6 y hy; omega)
  obtain ⟨x8, e8, f8⟩ := sameRec20 x7 R.1 slq7 slr7 (by omega)
  have z8 := f8.size
  have h8 := h7.step f8 (by simp)
  have bX8 := bX7.fr f8 (by simp)
  have bY8 := bY7.fr f8 (by simp)
  have bo8 := bo7.fr f8 (by simp)
  have slq8 := slq7.fr f8 (fun _ y _ => by simp)
  have slr8 := slr7.fr f8 (fun _ y _ => by simp)
  have lX7 := bX7.ldN (n := 7) rfl
  have lY7 := bY7.ldN (n := 7) rfl
  have lX8 := bX8.ldN (n := 7) rfl
  have k1 : decide ((k : Int) < (u0.2.1 : Int)) = true := by simp; omega
  have k01 : (o.k == 0) = false := by simp [hk]
  have k11 : (o.k == 1) = false := by simp [hk]
  have k21 : (o.k == 2) = true := by simp [hk]
  have hw := wrap_succ (n := k) (by omega)
  have o0 : x3.cell? ⟨x.heap.size, 0, none⟩ = some (.int .i64 o.k) := bo3.cell 0
  have pn : x3.cell? ⟨x.heap.size, 1, none⟩ = some (.int .i64 o.n) := bo3.cell 1
  have ppid : x3.cell? ⟨x.heap.size, 5, none⟩ = some (.int .u64 o.pid) := bo3.cell 5
  have pep : x3.cell? ⟨x.heap.size, 3, none⟩ = some (.int .i64 o.ep) := bo3.cell 3
  have ppart : x3.cell? ⟨x.heap.size, 4, none⟩ = some (.int .i64 o.part) := bo3.cell 4
  have rn : x5.cell? ⟨x.heap.size, 1, none⟩ = some (.int .i64 o.n) := bo5.cell 1
  have rpid : x5.cell? ⟨x.heap.size, 5, none⟩ = some (.int .u64 o.pid) := bo5.cell 5
  have rep : x5.cell? ⟨x.heap.size, 3, none⟩ = some (.int .i64 o.ep) := bo5.cell 3
  have rpart : x5.cell? ⟨x.heap.size, 4, none⟩ = some (.int .i64 o.part) := bo5.cell 4
  have d7 : x8.cell? ⟨x.heap.size, 7, none⟩ = some (.bool o.doit) := bo8.cell 7
  have d1 : x8.cell? ⟨x.heap.size, 1, none⟩ = some (.int .i64 o.n) := bo8.cell 1
  have d9 : x8.cell? ⟨x.heap.size, 8 + 1, none⟩ = some (.int .i64 o.rtx) := bo8.cell 9
  obtain ⟨r, ok, er⟩ := R
  have bb : (ok == ok) = true := by simp
  have be : ((er : Int) != er) = false := by simp
  simp only [RV.arg] at e4 e6 e8
  simp only [RV.cs] at s5 s7 lX7 lY7 lX8
  simp only [OV.cs] at l1
  -- without a record, or where it is not to be done
  have stay : ∀ (v : Value), ∃ y, Blk y x8.heap.size [.int .i64 o.n, .int .i64 o.rtx] 3 ∧ x8.alloc (.cells #[.int .i64 o.n, .int .i64 o.rtx] 3) = y ∧ PS W y tb D DL A ql L := by
    intro v
    have fa : Fr [] x8 (x8.alloc (.cells #[.int .i64 o.n, .int .i64 o.rtx] 3)) := Fr.alloc _
    exact ⟨_, Blk.new x8 [.int .i64 o.n, .int .i64 o.rtx] 3, rfl, h8.step fa (by simp)⟩
  obtain ⟨y9, by9, hy9, P9⟩ := stay .nilIface
  have sR : sumP (recs L) ≤ sumP (recs L) + 1 := by omega
  cases ok with
  | false =>
    obtain ⟨x', e', P'⟩ := tl919 (f0 := false) (f := false) (k0 := (k : Int)) (u0 := u0) (r := (.bool true, x8)) P9 by9
    refine ⟨x', D, DL, A, ql, L, ?_, P', sR, by omega⟩
    unfold g3_l6_b
    simp only [k1, i1, l1, s1, hA, hB, addr_add, Nat.zero_add, o0, k01, k11, k21, pn, ppid, pep, ppart, obs, asP_pointer, asB_bool, asI_int, asS_string, asSl_slice, asM_map, asTup0, asTup1, asTup2, asTup3, asTup4, asTup5, asTup6, asTup7, asTup8, asTup9, asAgg2, asAgg3, asAgg4, asAgg5, asAgg6, asAgg7, asAgg8, asAgg9, asAgg12, getD0, getD1, getD2, getD3, getD4, getD5, getD6, getD7, getD8, getD9, getD10, getD11, getD12, getD13, getD14, getD15, getD16, getD17, getD18, getD19, Bool.not_true, Bool.not_false, Bool.false_eq_true, Bool.true_eq_false, ↓reduceIte, decide_true, decide_false, Option.isNone_some, Option.isNone_none, Option.isSome_some, Option.isSome_none, beq_self_eq_true, bne_self_eq_false, Bool.and_true, Bool.true_and, Bool.and_false, Bool.false_and, not_true_eq_false, not_false_eq_true]
    simp only [e4, s5, rn, rpid, rep, rpart, addr_add, Nat.zero_add, e6, s7, bb, be, obs, asP_pointer, asB_bool, asI_int, asS_string, asSl_slice, asM_map, asTup0, asTup1, asTup2, asTup3, asTup4, asTup5, asTup6, asTup7, asTup8, asTup9, asAgg2, asAgg3, asAgg4, asAgg5, asAgg6, asAgg7, asAgg8, asAgg9, asAgg12, getD0, getD1, getD2, getD3, getD4, getD5, getD6, getD7, getD8, getD9, getD10, getD11, getD12, getD13, getD14, getD15, getD16, getD17, getD18, getD19, Bool.not_true, Bool.not_false, Bool.false_eq_true, Bool.true_eq_false, ↓reduceIte, decide_true, decide_false, Option.isNone_some, Option.isNone_none, Option.isSome_some, Option.isSome_none, beq_self_eq_true, bne_self_eq_false, Bool.and_true, Bool.true_and, Bool.and_false, Bool.false_and, not_true_eq_false, not_false_eq_true]
    simp only [lX7, lY7, e8, d1, d9, addr_add, Nat.zero_add, hy9, obs, asP_pointer, asB_bool, asI_int, asS_string, asSl_slice, asM_map, asTup0, asTup1, asTup2, asTup3, asTup4, asTup5, asTup6, asTup7, asTup8, asTup9, asAgg2, asAgg3, asAgg4, asAgg5, asAgg6, asAgg7, asAgg8, asAgg9, asAgg12, getD0, getD1, getD2, getD3, getD4, getD5, getD6, getD7, getD8, getD9, getD10, getD11, getD12, getD13, getD14, getD15, getD16, getD17, getD18, getD19, Bool.not_true, Bool.not_false, Bool.false_eq_true, Bool.true_eq_false, ↓reduceIte, decide_true, decide_false, Option.isNone_some, Option.isNone_none, Option.isSome_some, Option.isSome_none, beq_self_eq_true, bne_self_eq_false, Bool.and_true, Bool.true_and, Bool.and_false, Bool.false_and, not_true_eq_false, not_false_eq_true]
    rw [hw] at e'
    exact e'
  | true =>
    cases hdo : o.doit with
    | false =>
      rw [hdo] at d7
      obtain ⟨x', e', P'⟩ := tl812 (f0 := false) (f := false) (k0 := (k : Int)) (u0 := u0) (r := (.bool true, x8)) P9 by9
      refine ⟨x', D, DL, A, ql, L, ?_, P', sR, by omega⟩
      unfold g3_l6_b
      simp only [k1, i1, l1, s1, hA, hB, addr_add, Nat.zero_add, o0, k01, k11, k21, pn, ppid, pep, ppart, obs, asP_pointer, asB_bool, asI_int, asS_string, asSl_slice, asM_map, asTup0, asTup1, asTup2, asTup3, asTup4, asTup5, asTup6, asTup7, asTup8, asTup9, asAgg2, asAgg3, asAgg4, asAgg5, asAgg6, asAgg7, asAgg8, asAgg9, asAgg12, getD0, getD1, getD2, getD3, getD4, getD5, getD6, getD7, getD8, getD9, getD10, getD11, getD12, getD13, getD14, getD15, getD16, getD17, getD18, getD19, Bool.not_true, Bool.not_false, Bool.false_eq_true, Bool.true_eq_false, ↓reduceIte, decide_true, decide_false, Option.isNone_some, Option.isNone_none, Option.isSome_some, Option.isSome_none, beq_self_eq_true, bne_self_eq_false, Bool.and_true, Bool.true_and, Bool.and_false, Bool.false_and, not_true_eq_false, not_false_eq_true]
      simp only [e4, s5, rn, rpid, rep, rpart, addr_add, Nat.zero_add, e6, s7, bb, be, obs, asP_pointer, asB_bool, asI_int, asS_string, asSl_slice, asM_map, asTup0, asTup1, asTup2, asTup3, asTup4, asTup5, asTup6, asTup7, asTup8, asTup9, asAgg2, asAgg3, asAgg4, asAgg5, asAgg6, asAgg7, asAgg8, asAgg9, asAgg12, getD0, getD1, getD2, getD3, getD4, getD5, getD6, getD7, getD8, getD9, getD10, getD11, getD12, getD13, getD14, getD15, getD16, getD17, getD18, getD19, Bool.not_true, Bool.not_false, Bool.false_eq_true, Bool.true_eq_false, ↓reduceIte, decide_true, decide_false, Option.isNone_some, Option.isNone_none, Option.isSome_some, Option.isSome_none, beq_self_eq_true, bne_self_eq_false, Bool.and_true, Bool.true_and, Bool.and_false, Bool.false_and, not_true_eq_false, not_false_eq_true]
      simp only [lX7, lY7, e8, d7, d1, d9, addr_add, Nat.zero_add, hy9, obs, asP_pointer, asB_bool, asI_int, asS_string, asSl_slice, asM_map, asTup0, asTup1, asTup2, asTup3, asTup4, asTup5, asTup6, asTup7, asTup8, asTup9, asAgg2, asAgg3, asAgg4, asAgg5, asAgg6, asAgg7, asAgg8, asAgg9, asAgg12, getD0, getD1, getD2, getD3, getD4, getD5, getD6, getD7, getD8, getD9, getD10, getD11, getD12, getD13, getD14, getD15, getD16, getD17, getD18, getD19, Bool.not_true, Bool.not_false, Bool.false_eq_true, Bool.true_eq_false, ↓reduceIte, decide_true, decide_false, Option.isNone_some, Option.isNone_none, Option.isSome_some, Option.isSome_none, beq_self_eq_true, bne_self_eq_false, Bool.and_true, Bool.true_and, Bool.and_false, Bool.false_and, not_true_eq_false, not_false_eq_true]
      rw [hw] at e'
      exact e'
    | true =>
      rw [hdo] at d7
      simp only at hRp slq8 slr8
      obtain ⟨x9, D9, e9, t9, c9⟩ := h8.apply (r := r) slq8 (fun h0 y hy => ⟨fun hd => by have := m4 y hy; have := h.tab.lt y hd; omega, slq8.lt (by simpa using h0) y hy⟩) (by omega)
      obtain ⟨S, f9, hS⟩ := c9.fr
      have z9 := f9.size
      have rl9 : RL x9 DL ql L := h8.rl.fr f9 (fun y hy _ => h8.ap y (hS y hy))
      have bY9 := bY8.fr f9 (fun hm => freshY.2.1 (hS _ hm))
      have bo9 := bo8.fr f9 (fun hm => freshO.2.1 (hS _ hm))
      have slr9 := slr8.fr f9 (fun h0 y hy hm => by have := hS y hm; have := h.tab.lt y this; have := m6 y hy; omega)
      have lY9 := bY9.ldN (n := 7) rfl
      have nD9 : ∀ y, D9 y → D y ∨ x8.heap.size ≤ y := c9.new
      obtain ⟨q10, x10, DL10, e10, P10, f10, d10⟩ := h8.push (y := x9) (D' := D9) (r := r) t9 rl9 ((h8.fr.app f9).mono (by intro y hy hl; simp at hy; have := h.hD y (hS y hy); omega)) (fun y hy => by
        rcases nD9 y hy with hh | hh
        · exact h.hD y hh
        · have := h8.fr.size; omega) (fun y hy hl => by
        rcases nD9 y hy with hh | hh
        · exact h.ap y hh hl
        · have := h8.rl.lt y hl; omega) (v := q6) slr9 (fun h0 y hy => ⟨slr9.lt (by simpa using h0) y hy, fun hd => by have := m6 y hy; have := h.rl.lt y hd; omega, fun hd => by
          have hy8 := slr8.lt (by simpa using h0) y hy
          rcases nD9 y hd with hh | hh
          · have := m6 y hy; have := h.tab.lt y hh; omega
          · omega, by have := m6 y hy; omega⟩) hlen (by omega)
      have bo10 := bo9.fr f10 (fun hm => freshO.2.2 (h.rl.reg _ hm))
      have fa : Fr [] x10 (x10.alloc (.cells #[.int .i64 o.n, .int .i64 o.rtx] 3)) := Fr.alloc _
      have P11 := P10.step fa (by simp)
      obtain ⟨x', e', P'⟩ := tl705 (f0 := false) (f := false) (k0 := (k : Int)) (qs := ql) (u0 := u0) (r := (.slice q10.1 q10.2.1 q10.2.2, x10)) P11 (Blk.new x10 [.int .i64 o.n, .int .i64 o.rtx] 3)
      have d1' : x10.cell? ⟨x.heap.size, 1, none⟩ = some (.int .i64 o.n) := bo10.cell 1
      have d9' : x10.cell? ⟨x.heap.size, 8 + 1, none⟩ = some (.int .i64 o.rtx) := bo10.cell 9
      have hrec : recs (L ++ [(r, q6)]) = recs L ++ [r] := by unfold recs; rw [List.map_append]; rfl
      refine ⟨x', D9, DL10, _, q10, _, ?_, P', by rw [hrec, sumP_snoc]; omega, by simp⟩
      simp only [RV.arg] at e9
      simp only [RV.cs] at lY9
      unfold g3_l6_b
      simp only [k1, i1, l1, s1, hA, hB, addr_add, Nat.zero_add, o0, k01, k11, k21, pn, ppid, pep, ppart, obs, asP_pointer, asB_bool, asI_int, asS_string, asSl_slice, asM_map, asTup0, asTup1, asTup2, asTup3, asTup4, asTup5, asTup6, asTup7, asTup8, asTup9, asAgg2, asAgg3, asAgg4, asAgg5, asAgg6, asAgg7, asAgg8, asAgg9, asAgg12, getD0, getD1, getD2, getD3, getD4, getD5, getD6, getD7, getD8, getD9, getD10, getD11, getD12, getD13, getD14, getD15, getD16, getD17, getD18, getD19, Bool.not_true, Bool.not_false, Bool.false_eq_true, Bool.true_eq_false, ↓reduceIte, decide_true, decide_false, Option.isNone_some, Option.isNone_none, Option.isSome_some, Option.isSome_none, beq_self_eq_true, bne_self_eq_false, Bool.and_true, Bool.true_and, Bool.and_false, Bool.false_and, not_true_eq_false, not_false_eq_true]
      simp only [e4, s5, rn, rpid, rep, rpart, addr_add, Nat.zero_add, e6, s7, bb, be, obs, asP_pointer, asB_bool, asI_int, asS_string, asSl_slice, asM_map, asTup0, asTup1, asTup2, asTup3, asTup4, asTup5, asTup6, asTup7, asTup8, asTup9, asAgg2, asAgg3, asAgg4, asAgg5, asAgg6, asAgg7, asAgg8, asAgg9, asAgg12, getD0, getD1, getD2, getD3, getD4, getD5, getD6, getD7, getD8, getD9, getD10, getD11, getD12, getD13, getD14, getD15, getD16, getD17, getD18, getD19, Bool.not_true, Bool.not_false, Bool.false_eq_true, Bool.true_eq_false, ↓reduceIte, decide_true, decide_false, Option.isNone_some, Option.isNone_none, Option.isSome_some, Option.isSome_none, beq_self_eq_true, bne_self_eq_false, Bool.and_true, Bool.true_and, Bool.and_false, Bool.false_and, not_true_eq_false, not_false_eq_true]
      simp only [lX7, lY7, e8, d7, lX8, e9, lY9, e10, d1', d9', addr_add, Nat.zero_add, obs, asP_pointer, asB_bool, asI_int, asS_string, asSl_slice, asM_map, asTup0, asTup1, asTup2, asTup3, asTup4, asTup5, asTup6, asTup7, asTup8, asTup9, asAgg2, asAgg3, asAgg4, asAgg5, asAgg6, asAgg7, asAgg8, asAgg9, asAgg12, getD0, getD1, getD2, getD3, getD4, getD5, getD6, getD7, getD8, getD9, getD10, getD11, getD12, getD13, getD14, getD15, getD16, getD17, getD18, getD19, Bool.not_true, Bool.not_false, Bool.false_eq_true, Bool.true_eq_false, ↓reduceIte, decide_true, decide_false, Option.isNone_some, Option.isNone_none, Option.isSome_some, Option.isSome_none, beq_self_eq_true, bne_self_eq_false, Bool.and_true, Bool.true_and, Bool.and_false, Bool.false_and, not_true_eq_false, not_false_eq_true]
      rw [hw] at e'
      exact e'

theorem op3 (h : PS W x tb D DL A ql L) (o : OV) (hk : o.k ≠ 0 ∧ o.k ≠ 1 ∧ o.k ≠ 2) {k : Nat} (hkk : (k : Int) < (u0.2.1 : Int)) (hu : u0.2.1 ≤ 9223372036854775807) (i1 : idxA u0.1 u0.2.1 15 (k : Int) = some a) (l1 : ldN x a 0 15 = some o.cs) (hlen : L.length ≤ 10000000) (hs : sumP (recs L) + 1 ≤ 100000000) :
    ∃ x' D' DL' A' ql' L', g3_l6_b u0 (some ⟨tb, 0, none⟩) (false, ql, (k : Int)) x = some (.normal, (false, ql', ((k + 1 : Nat) : Int)), x') ∧ PS W x' tb D' DL' A' ql' L' ∧ sumP (recs L') ≤ sumP (recs L) + 1 ∧ L'.length ≤ L.length + 1 := by
  have z0 := h.fr.size
  have lt := h.tab.lt
  have ltL := h.rl.lt
  obtain ⟨x1, x2, x3, s1, hA, hB, bo3, bX3, bY3, F3, z1, z2⟩ := beg x o
  have h3 := h.step F3 (by simp)
  have freshO : W.heap.size ≤ x.heap.size ∧ ¬ D x.heap.size ∧ ¬ DL x.heap.size := ⟨z0, fun hd => by have := lt _ hd; omega, fun hd => by have := ltL _ hd; omega⟩
  have freshX : W.heap.size ≤ x1.heap.size ∧ ¬ D x1.heap.size ∧ ¬ DL x1.heap.size := ⟨by omega, fun hd => by have := lt _ hd; omega, fun hd => by have := ltL _ hd; omega⟩
  have freshY : W.heap.size ≤ x2.heap.size ∧ ¬ D x2.heap.size ∧ ¬ DL x2.heap.size := ⟨by omega, fun hd => by have := lt _ hd; omega, fun hd => by have := ltL _ hd; omega⟩
  have lX := bX3.lt
  have lY := bY3.lt
  obtain ⟨x4, e4, f4⟩ := end18 h3.tab o.n o.pid o.ep o.com (h3.lenM o.n)
  obtain ⟨q4, hq4⟩ : ∃ q4 : Sh, q4 = (none, 0, 0) := ⟨_, rfl⟩
  rw [← hq4] at e4
  have m4 : ∀ y ∈ blkOf q4, x3.heap.size ≤ y := by rw [hq4]; simp [blkOf]
  have sl4 : SlC x4 1 q4 (intsV' (endP (tvOf A o.n) o.n o.pid o.ep o.com).1.parts) := by rw [endP_parts, hq4]; exact ⟨rfl, by simp⟩
  have hRp : (endP (tvOf A o.n) o.n o.pid o.ep o.com).1.parts.length ≤ 1 := by rw [endP_parts]; simp
  obtain ⟨R, hR⟩ : ∃ R, endP (tvOf A o.n) o.n o.pid o.ep o.com = R := ⟨_, rfl⟩
  rw [hR] at e4 sl4 hRp
  obtain ⟨x5, s5, bX5, f5⟩ := (bX3.fr f4 (by simp)).stL (vs := R.1.cs q4) rfl (rvcs_oc _ _)
  have z3 := F3.size
  have z4 := f4.size
  have z5 := f5.size
  have h5 := (h3.step f4 (by simp)).step f5 (by intro y hy; simp at hy; subst hy; exact freshX)
  have bo5 := (bo3.fr f4 (by simp)).fr f5 (by simp; omega)
  have bY5 := (bY3.fr f4 (by simp)).fr f5 (by simp; omega)
  have sl5 := sl4.fr f5 (fun h0 y hy hm => by simp at hm; have := m4 y hy; omega)
  obtain ⟨r6, e6, q6, hr6, f6, sl6, m6⟩ := end19 h5.rl o.n o.pid o.ep o.com h5.sum
  rw [← h5.says, hR] at hr6 sl6
  obtain ⟨v6, x6⟩ := r6
  simp only at hr6 f6 sl6
  subst hr6
  obtain ⟨x7, s7, bY7, f7⟩ := (bY5.fr f6 (by simp)).stL (vs := R.1.cs q6) rfl (rvcs_oc _ _)
  have z6 := f6.size
  have z7 := f7.size
  have h7 := (h5.step f6 (by simp)).step f7 (by intro y hy; simp at hy; subst hy; exact freshY)
  have bX7 := (bX5.fr f6 (by simp)).fr f7 (by simp; omega)
  have bo7 := (bo5.fr f6 (by simp)).fr f7 (by simp; omega)
  have slq7 : SlC x7 1 q4 (intsV' R.1.parts) := (sl5.fr f6 (fun _ y _ => by simp)).fr f7 (fun h0 y hy hm => by simp at hm; have := m4 y hy; omega)
  have slr7 := sl6.fr f7 (fun h0 y hy hm => by simp at hm; have := m6 y hy; omega)
  obtain ⟨x8, e8, f8⟩ := sameRec20 x7 R.1 slq7 slr7 (by omega)
  have z8 := f8.size
  have h8 := h7.step f8 (by simp)
  have bX8 := bX7.fr f8 (by simp)
  have bY8 := bY7.fr f8 (by simp)
  have bo8 := bo7.fr f8 (by simp)
  have slq8 := slq7.fr f8 (fun _ y _ => by simp)
  have slr8 := slr7.fr f8 (fun _ y _ => by simp)
  have lX7 := bX7.ldN (n := 7) rfl
  have lY7 := bY7.ldN (n := 7) rfl
  have lX8 := bX8.ldN (n := 7) rfl
  have k1 : decide ((k : Int) < (u0.2.1 : Int)) = true := by simp; omega
  have k01 : (o.k == 0) = false := by simp [hk]
  have k11 : (o.k == 1) = false := by simp [hk]
  have k21 : (o.k == 2) = false := by simp [hk]
  have hw := wrap_succ (n := k) (by omega)
  have o0 : x3.cell? ⟨x.heap.size, 0, none⟩ = some (.int .i64 o.k) := bo3.cell 0
  have pn : x3.cell? ⟨x.heap.size, 1, none⟩ = some (.int .i64 o.n) := bo3.cell 1
  have ppid : x3.cell? ⟨x.heap.size, 5, none⟩ = some (.int .u64 o.pid) := bo3.cell 5
  have pep : x3.cell? ⟨x.heap.size, 3, none⟩ = some (.int .i64 o.ep) := bo3.cell 3
  have pcom : x3.cell? ⟨x.heap.size, 6, none⟩ = some (.bool o.com) := bo3.cell 6
  have rn : x5.cell? ⟨x.heap.size, 1, none⟩ = some (.int .i64 o.n) := bo5.cell 1
  have rpid : x5.cell? ⟨x.heap.size, 5, none⟩ = some (.int .u64 o.pid) := bo5.cell 5
  have rep : x5.cell? ⟨x.heap.size, 3, none⟩ = some (.int .i64 o.ep) := bo5.cell 3
  have rcom : x5.cell? ⟨x.heap.size, 6, none⟩ = some (.bool o.com) := bo5.cell 6
  have d7 : x8.cell? ⟨x.heap.size, 7, none⟩ = some (.bool o.doit) := bo8.cell 7
  have d1 : x8.cell? ⟨x.heap.size, 1, none⟩ = some (.int .i64 o.n) := bo8.cell 1
  have d9 : x8.cell? ⟨x.heap.size, 8 + 1, none⟩ = some (.int .i64 o.rtx) := bo8.cell 9
  obtain ⟨r, ok, er⟩ := R
  have bb : (ok == ok) = true := by simp
  have be : ((er : Int) != er) = false := by simp
  simp only [RV.arg] at e4 e6 e8
  simp only [RV.cs] at s5 s7 lX7 lY7 lX8
  simp only [OV.cs] at l1
  -- without a record, or where it is not to be done
  have stay : ∀ (v : Value), ∃ y, Blk y x8.heap.size [.int .i64 o.n, .int .i64 o.rtx] 3 ∧ x8.alloc (.cells #[.int .i64 o.n, .int .i64 o.rtx] 3) = y ∧ PS W y tb D DL A ql L := by
    intro v
    have fa : Fr [] x8 (x8.alloc (.cells #[.int .i64 o.n, .int .i64 o.rtx] 3)) := Fr.alloc _
    exact ⟨_, Blk.new x8 [.int .i64 o.n, .int .i64 o.rtx] 3, rfl, h8.step fa (by simp)⟩
  obtain ⟨y9, by9, hy9, P9⟩ := stay .nilIface
  have sR : sumP (recs L) ≤ sumP (recs L) + 1 := by omega
  cases ok with
  | false =>
    obtain ⟨x', e', P'⟩ := tl1322 (f0 := false) (f := false) (k0 := (k : Int)) (u0 := u0) (r := (.bool true, x8)) P9 by9
    refine ⟨x', D, DL, A, ql, L, ?_, P', sR, by omega⟩
    unfold g3_l6_b
    simp only [k1, i1, l1, s1, hA, hB, addr_add, Nat.zero_add, o0, k01, k11, k21, pn, ppid, pep, pcom, obs, asP_pointer, asB_bool, asI_int, asS_string, asSl_slice, asM_map, asTup0, asTup1, asTup2, asTup3, asTup4, asTup5, asTup6, asTup7, asTup8, asTup9, asAgg2, asAgg3, asAgg4, asAgg5, asAgg6, asAgg7, asAgg8, asAgg9, asAgg12, getD0, getD1, getD2, getD3, getD4, getD5, getD6, getD7, getD8, getD9, getD10, getD11, getD12, getD13, getD14, getD15, getD16, getD17, getD18, getD19, Bool.not_true, Bool.not_false, Bool.false_eq_true, Bool.true_eq_false, ↓reduceIte, decide_true, decide_false, Option.isNone_some, Option.isNone_none, Option.isSome_some, Option.isSome_none, beq_self_eq_true, bne_self_eq_false, Bool.and_true, Bool.true_and, Bool.and_false, Bool.false_and, not_true_eq_false, not_false_eq_true]
    simp only [e4, s5, rn, rpid, rep, rcom, addr_add, Nat.zero_add, e6, s7, bb, be, obs, asP_pointer, asB_bool, asI_int, asS_string, asSl_slice, asM_map, asTup0, asTup1, asTup2, asTup3, asTup4, asTup5, asTup6, asTup7, asTup8, asTup9, asAgg2, asAgg3, asAgg4, asAgg5, asAgg6, asAgg7, asAgg8, asAgg9, asAgg12, getD0, getD1, getD2, getD3, getD4, getD5, getD6, getD7, getD8, getD9, getD10, getD11, getD12, getD13, getD14, getD15, getD16, getD17, getD18, getD19, Bool.not_true, Bool.not_false, Bool.false_eq_true, Bool.true_eq_false, ↓reduceIte, decide_true, decide_false, Option.isNone_some, Option.isNone_none, Option.isSome_some, Option.isSome_none, beq_self_eq_true, bne_self_eq_false, Bool.and_true, Bool.true_and, Bool.and_false, Bool.false_and, not_true_eq_false, not_false_eq_true]
    simp only [lX7, lY7, e8, d1, d9, addr_add, Nat.zero_add, hy9, obs, asP_pointer, asB_bool, asI_int, asS_string, asSl_slice, asM_map, asTup0, asTup1, asTup2, asTup3, asTup4, asTup5, asTup6, asTup7, asTup8, asTup9, asAgg2, asAgg3, asAgg4, asAgg5, asAgg6, asAgg7, asAgg8, asAgg9, asAgg12, getD0, getD1, getD2, getD3, getD4, getD5, getD6, getD7, getD8, getD9, getD10, getD11, getD12, getD13, getD14, getD15, getD16, getD17, getD18, getD19, Bool.not_true, Bool.not_false, Bool.false_eq_true, Bool.true_eq_false, ↓reduceIte, decide_true, decide_false, Option.isNone_some, Option.isNone_none, Option.isSome_some, Option.isSome_none, beq_self_eq_true, bne_self_eq_false, Bool.and_true, Bool.true_and, Bool.and_false, Bool.false_and, not_true_eq_false, not_false_eq_true]
    rw [hw] at e'
    exact e'
  | true =>
    cases hdo : o.doit with
    | false =>
      rw [hdo] at d7
      obtain ⟨x', e', P'⟩ := tl1215 (f0 := false) (f := false) (k0 := (k : Int)) (u0 := u0) (r := (.bool true, x8)) P9 by9
      refine ⟨x', D, DL, A, ql, L, ?_, P', sR, by omega⟩
      unfold g3_l6_b
      simp only [k1, i1, l1, s1, hA, hB, addr_add, Nat.zero_add, o0, k01, k11, k21, pn, ppid, pep, pcom, obs, asP_pointer, asB_bool, asI_int, asS_string, asSl_slice, asM_map, asTup0, asTup1, asTup2, asTup3, asTup4, asTup5, asTup6, asTup7, asTup8, asTup9, asAgg2, asAgg3, asAgg4, asAgg5, asAgg6, asAgg7, asAgg8, asAgg9, asAgg12, getD0, getD1, getD2, getD3, getD4, getD5, getD6, getD7, getD8, getD9, getD10, getD11, getD12, getD13, getD14, getD15, getD16, getD17, getD18, getD19, Bool.not_true, Bool.not_false, Bool.false_eq_true, Bool.true_eq_false, ↓reduceIte, decide_true, decide_false, Option.isNone_some, Option.isNone_none, Option.isSome_some, Option.isSome_none, beq_self_eq_true, bne_self_eq_false, Bool.and_true, Bool.true_and, Bool.and_false, Bool.false_and, not_true_eq_false, not_false_eq_true]
      simp only [e4, s5, rn, rpid, rep, rcom, addr_add, Nat.zero_add, e6, s7, bb, be, obs, asP_pointer, asB_bool, asI_int, asS_string, asSl_slice, asM_map, asTup0, asTup1, asTup2, asTup3, asTup4, asTup5, asTup6, asTup7, asTup8, asTup9, asAgg2, asAgg3, asAgg4, asAgg5, asAgg6, asAgg7, asAgg8, asAgg9, asAgg12, getD0, getD1, getD2, getD3, getD4, getD5, getD6, getD7, getD8, getD9, getD10, getD11, getD12, getD13, getD14, getD15, getD16, getD17, getD18, getD19, Bool.not_true, Bool.not_false, Bool.false_eq_true, Bool.true_eq_false, ↓reduceIte, decide_true, decide_false, Option.isNone_some, Option.isNone_none, Option.isSome_some, Option.isSome_none, beq_self_eq_true, bne_self_eq_false, Bool.and_true, Bool.true_and, Bool.and_false, Bool.false_and, not_true_eq_false, not_false_eq_true]
      simp only [lX7, lY7, e8, d7, d1, d9, addr_add, Nat.zero_add, hy9, obs, asP_pointer, asB_bool, asI_int, asS_string, asSl_slice, asM_map, asTup0, asTup1, asTup2, asTup3, asTup4, asTup5, asTup6, asTup7, asTup8, asTup9, asAgg2, asAgg3, asAgg4, asAgg5, asAgg6, asAgg7, asAgg8, asAgg9, asAgg12, getD0, getD1, getD2, getD3, getD4, getD5, getD6, getD7, getD8, getD9, getD10, getD11, getD12, getD13, getD14, getD15, getD16, getD17, getD18, getD19, Bool.not_true, Bool.not_false, Bool.false_eq_true, Bool.true_eq_false, ↓reduceIte, decide_true, decide_false, Option.isNone_some, Option.isNone_none, Option.isSome_some, Option.isSome_none, beq_self_eq_true, bne_self_eq_false, Bool.and_true, Bool.true_and, Bool.and_false, Bool.false_and, not_true_eq_false, not_false_eq_true]
      rw [hw] at e'
      exact e'
    | true =>
      rw [hdo] at d7
      simp only at hRp slq8 slr8
      obtain ⟨x9, D9, e9, t9, c9⟩ := h8.apply (r := r) slq8 (fun h0 y hy => ⟨fun hd => by have := m4 y hy; have := h.tab.lt y hd; omega, slq8.lt (by simpa using h0) y hy⟩) (by omega)
      obtain ⟨S, f9, hS⟩ := c9.fr
      have z9 := f9.size
      have rl9 : RL x9 DL ql L := h8.rl.fr f9 (fun y hy _ => h8.ap y (hS y hy))
      have bY9 := bY8.fr f9 (fun hm => freshY.2.1 (hS _ hm))
      have bo9 := bo8.fr f9 (fun hm => freshO.2.1 (hS _ hm))
      have slr9 := slr8.fr f9 (fun h0 y hy hm => by have := hS y hm; have := h.tab.lt y this; have := m6 y hy; omega)
      have lY9 := bY9.ldN (n := 7) rfl
      have nD9 : ∀ y, D9 y → D y ∨ x8.heap.size ≤ y := c9.new
      obtain ⟨q10, x10, DL10, e10, P10, f10, d10⟩ := h8.push (y := x9) (D' := D9) (r := r) t9 rl9 ((h8.fr.app f9).mono (by intro y hy hl; simp at hy; have := h.hD y (hS y hy); omega)) (fun y hy => by
        rcases nD9 y hy with hh | hh
        · exact h.hD y hh
        · have := h8.fr.size; omega) (fun y hy hl => by
        rcases nD9 y hy with hh | hh
        · exact h.ap y hh hl
        · have := h8.rl.lt y hl; omega) (v := q6) slr9 (fun h0 y hy => ⟨slr9.lt (by simpa using h0) y hy, fun hd => by have := m6 y hy; have := h.rl.lt y hd; omega, fun hd => by
          have hy8 := slr8.lt (by simpa using h0) y hy
          rcases nD9 y hd with hh | hh
          · have := m6 y hy; have := h.tab.lt y hh; omega
          · omega, by have := m6 y hy; omega⟩) hlen (by omega)
      have bo10 := bo9.fr f10 (fun hm => freshO.2.2 (h.rl.reg _ hm))
      have fa : Fr [] x10 (x10.alloc (.cells #[.int .i64 o.n, .int .i64 o.rtx] 3)) := Fr.alloc _
      have P11 := P10.step fa (by simp)
      obtain ⟨x', e', P'⟩ := tl1108 (f0 := false) (f := false) (k0 := (k : Int)) (qs := ql) (u0 := u0) (r := (.slice q10.1 q10.2.1 q10.2.2, x10)) P11 (Blk.new x10 [.int .i64 o.n, .int .i64 o.rtx] 3)
      have d1' : x10.cell? ⟨x.heap.size, 1, none⟩ = some (.int .i64 o.n) := bo10.cell 1
      have d9' : x10.cell? ⟨x.heap.size, 8 + 1, none⟩ = some (.int .i64 o.rtx) := bo10.cell 9
      have hrec : recs (L ++ [(r, q6)]) = recs L ++ [r] := by unfold recs; rw [List.map_append]; rfl
      refine ⟨x', D9, DL10, _, q10, _, ?_, P', by rw [hrec, sumP_snoc]; omega, by simp⟩
      simp only [RV.arg] at e9
      simp only [RV.cs] at lY9
      unfold g3_l6_b
      simp only [k1, i1, l1, s1, hA, hB, addr_add, Nat.zero_add, o0, k01, k11, k21, pn, ppid, pep, pcom, obs, asP_pointer, asB_bool, asI_int, asS_string, asSl_slice, asM_map, asTup0, asTup1, asTup2, asTup3, asTup4, asTup5, asTup6, asTup7, asTup8, asTup9, asAgg2, asAgg3, asAgg4, asAgg5, asAgg6, asAgg7, asAgg8, asAgg9, asAgg12, getD0, getD1, getD2, getD3, getD4, getD5, getD6, getD7, getD8, getD9, getD10, getD11, getD12, getD13, getD14, getD15, getD16, getD17, getD18, getD19, Bool.not_true, Bool.not_false, Bool.false_eq_true, Bool.true_eq_false, ↓reduceIte, decide_true, decide_false, Option.isNone_some, Option.isNone_none, Option.isSome_some, Option.isSome_none, beq_self_eq_true, bne_self_eq_false, Bool.and_true, Bool.true_and, Bool.and_false, Bool.false_and, not_true_eq_false, not_false_eq_true]
      simp only [e4, s5, rn, rpid, rep, rcom, addr_add, Nat.zero_add, e6, s7, bb, be, obs, asP_pointer, asB_bool, asI_int, asS_string, asSl_slice, asM_map, asTup0, asTup1, asTup2, asTup3, asTup4, asTup5, asTup6, asTup7, asTup8, asTup9, asAgg2, asAgg3, asAgg4, asAgg5, asAgg6, asAgg7, asAgg8, asAgg9, asAgg12, getD0, getD1, getD2, getD3, getD4, getD5, getD6, getD7, getD8, getD9, getD10, getD11, getD12, getD13, getD14, getD15, getD16, getD17, getD18, getD19, Bool.not_true, Bool.not_false, Bool.false_eq_true, Bool.true_eq_false, ↓reduceIte, decide_true, decide_false, Option.isNone_some, Option.isNone_none, Option.isSome_some, Option.isSome_none, beq_self_eq_true, bne_self_eq_false, Bool.and_true, Bool.true_and, Bool.and_false, Bool.false_and, not_true_eq_false, not_false_eq_true]
      simp only [lX7, lY7, e8, d7, lX8, e9, lY9, e10, d1', d9', addr_add, Nat.zero_add, obs, asP_pointer, asB_bool, asI_int, asS_string, asSl_slice, asM_map, asTup0, asTup1, asTup2, asTup3, asTup4, asTup5, asTup6, asTup7, asTup8, asTup9, asAgg2, asAgg3, asAgg4, asAgg5, asAgg6, asAgg7, asAgg8, asAgg9, asAgg12, getD0, getD1, getD2, getD3, getD4, getD5, getD6, getD7, getD8, getD9, getD10, getD11, getD12, getD13, getD14, getD15, getD16, getD17, getD18, getD19, Bool.not_true, Bool.not_false, Bool.false_eq_true, Bool.true_eq_false, ↓reduceIte, decide_true, decide_false, Option.isNone_some, Option.isNone_none, Option.isSome_some, Option.isSome_none, beq_self_eq_true, bne_self_eq_false, Bool.and_true, Bool.true_and, Bool.and_false, Bool.false_and, not_true_eq_false, not_false_eq_true]
      rw [hw] at e'
      exact e'
end
end Go.Proofs.Ytlcojbodcbjkaaa

namespace Go.Proofs.Ytlcojbodcbjkaaa
open Go Go.Ev
set_option maxRecDepth 100000
set_option linter.unusedVariables false
set_option linter.unusedSimpArgs false

section
variable {W x : World} {tb : Nat} {D DL : Nat → Prop} {A : List (Int × TV)} {ql : Sh} {L : List (RV × Sh)} {u0 : Sh} {a : Addr}

theorem op0 (h : PS W x tb D DL A ql L) (o : OV) (hk : o.k = 0) {l : List Int} (slo : SlC x 1 o.rq (intsV' l)) (hlo : 0 < l.length → ∀ y ∈ blkOf o.rq, y < W.heap.size) {k : Nat} (hkk : (k : Int) < (u0.2.1 : Int)) (hu : u0.2.1 ≤ 9223372036854775807) (i1 : idxA u0.1 u0.2.1 15 (k : Int) = some a) (l1 : ldN x a 0 15 = some o.cs) (hlen : L.length ≤ 10000000) (hs : sumP (recs L) + l.length ≤ 100000000) :
    ∃ x' D' DL' A' ql' L', g3_l6_b u0 (some ⟨tb, 0, none⟩) (false, ql, (k : Int)) x = some (.normal, (false, ql', ((k + 1 : Nat) : Int)), x') ∧ PS W x' tb D' DL' A' ql' L' ∧ sumP (recs L') ≤ sumP (recs L) + l.length ∧ L'.length ≤ L.length + 1 := by
  have z0 := h.fr.size
  have lt := h.tab.lt
  have ltL := h.rl.lt
  obtain ⟨x1, x2, x3, s1, hA, hB, bo3, bX3, bY3, F3, z1, z2⟩ := beg x o
  have z3 := F3.size
  have h3 := h.step F3 (by simp)
  have freshO : W.heap.size ≤ x.heap.size ∧ ¬ D x.heap.size ∧ ¬ DL x.heap.size := ⟨z0, fun hd => by have := lt _ hd; omega, fun hd => by have := ltL _ hd; omega⟩
  have freshX : W.heap.size ≤ x1.heap.size ∧ ¬ D x1.heap.size ∧ ¬ DL x1.heap.size := ⟨by omega, fun hd => by have := lt _ hd; omega, fun hd => by have := ltL _ hd; omega⟩
  have freshY : W.heap.size ≤ x2.heap.size ∧ ¬ D x2.heap.size ∧ ¬ DL x2.heap.size := ⟨by omega, fun hd => by have := lt _ hd; omega, fun hd => by have := ltL _ hd; omega⟩
  have lX := bX3.lt
  have lY := bY3.lt
  -- the record of the call, copied
  obtain ⟨r, hr⟩ : ∃ r, o.re l = r := ⟨_, rfl⟩
  have hrp : r.parts = l := by rw [← hr]; rfl
  have hro : r = ⟨o.rk, o.rtx, o.rinc, o.rpid, o.rep, l, o.rcom⟩ := hr.symm
  have sl3 : SlC x3 1 o.rq (intsV' r.parts) := by rw [hrp]; exact slo.fr F3 (fun _ y _ => by simp)
  have ll3 : ldN x3 ⟨x.heap.size, 8, none⟩ 0 7 = some (r.cs o.rq) := blk_ldN bo3 rfl (by
    intro j hj
    rw [hro]
    match j, hj with
    | 0, _ => rfl
    | 1, _ => rfl
    | 2, _ => rfl
    | 3, _ => rfl
    | 4, _ => rfl
    | 5, _ => rfl
    | 6, _ => rfl)
  obtain ⟨v4, x4, e4, o4, f4, m4⟩ := own12 x3 r sl3 (by rw [hrp]; omega)
  obtain ⟨x5, s5, b5, f5, l5⟩ := newR x4 r v4
  have z4 := f4.size
  have z5 := f5.size
  have b5lt := b5.lt
  have h5 := (h3.step f4 (by simp)).step f5 (by simp)
  have o5 := o4.fr f5 (by simp)
  have bo5 := (bo3.fr f4 (by simp)).fr f5 (by simp)
  have bX5 := (bX3.fr f4 (by simp)).fr f5 (by simp)
  have bY5 := (bY3.fr f4 (by simp)).fr f5 (by simp)
  have sl5 : SlC x5 1 o.rq (intsV' r.parts) := (sl3.fr f4 (fun _ y _ => by simp)).fr f5 (fun _ y _ => by simp)
  have ln := h5.sum
  obtain ⟨x6, D6, e6, t6, c6⟩ := h5.apply (r := r) o5.slC (fun h0 y hy => ⟨fun hd => by have := m4 y hy; have := lt y hd; omega, own_lt o5 y hy⟩) (by rw [hrp]; omega)
  obtain ⟨S, f6, hS⟩ := c6.fr
  have z6 := f6.size
  have nD6 : ∀ y, D6 y → D y ∨ x5.heap.size ≤ y := c6.new
  have rl6 : RL x6 DL ql L := h5.rl.fr f6 (fun y hy _ => h5.ap y (hS y hy))
  have b6 := b5.fr f6 (fun hm => by have := lt _ (hS _ hm); omega)
  have o6 := o5.fr f6 (fun y hy hm => by have := lt _ (hS _ hm); have := m4 y hy; omega)
  have bo6 := bo5.fr f6 (fun hm => freshO.2.1 (hS _ hm))
  have bX6 := bX5.fr f6 (fun hm => freshX.2.1 (hS _ hm))
  have bY6 := bY5.fr f6 (fun hm => freshY.2.1 (hS _ hm))
  have sl6 := sl5.fr f6 (fun h0 y hy hm => by
    have := hlo (by rw [← hrp]; simpa using h0) y hy
    have := h.hD y (hS y hm); omega)
  have FW6 : Fr [] W x6 := (h5.fr.app f6).mono (by intro y hy hl; simp at hy; have := h.hD y (hS y hy); omega)
  have c5 : x6.cell? ⟨x4.heap.size, 5, none⟩ = some (.slice v4.1 v4.2.1 v4.2.2) := b6.cell 5
  have nT : x4.heap.size ∉ blkOf v4 := b6.notin o6 (by decide)
  -- its parts become nines
  obtain ⟨t7, x7, g7, f7⟩ := nines (X := 3) b6 (c := 5) rfl o6 nT
  have z7 := f7.size
  have nin : ∀ y, y < x3.heap.size → y ∉ blkOf v4 := fun y hy hm => by have := m4 y hm; omega
  have nD6v : ∀ y ∈ blkOf v4, ¬ D6 y := fun y hy hd => by
    rcases nD6 y hd with hh | hh
    · have := lt y hh; have := m4 y hy; omega
    · have := own_lt o5 y hy; omega
  have t7' := t6.fr f7 (fun y hy _ => nD6v y hy)
  have rl7 := rl6.fr f7 (fun y hy _ hd => by have := ltL y hd; have := m4 y hy; omega)
  have bo7 := bo6.fr f7 (nin _ (by omega))
  have bX7 := bX6.fr f7 (nin _ (by omega))
  have bY7 := bY6.fr f7 (nin _ (by omega))
  have sl7 := sl6.fr f7 (fun h0 y hy => nin y (by have := hlo (by rw [← hrp]; simpa using h0) y hy; omega))
  have FW7 : Fr [] W x7 := (FW6.app f7).mono (by intro y hy hl; simp at hy; have := m4 y hy; omega)
  have ll7 : ldN x7 ⟨x.heap.size, 8, none⟩ 0 7 = some (r.cs o.rq) := blk_ldN bo7 rfl (by
    intro j hj
    rw [hro]
    match j, hj with
    | 0, _ => rfl
    | 1, _ => rfl
    | 2, _ => rfl
    | 3, _ => rfl
    | 4, _ => rfl
    | 5, _ => rfl
    | 6, _ => rfl)
  obtain ⟨v8, x8, e8, o8, f8, m8⟩ := own12 x7 r sl7 (by rw [hrp]; omega)
  have z8 := f8.size
  have t8 := t7'.fr f8 (by simp)
  have rl8 := rl7.fr f8 (by simp)
  have FW8 : Fr [] W x8 := (Fr.mono (Fr.app FW7 f8) (by have z0_ := Fr.size FW7; have z1_ := Fr.size f8; intro y_ hy_ hl_; grind [blkOf]))
  have bo8 := bo7.fr f8 (by simp)
  have bX8 := bX7.fr f8 (by simp)
  have bY8 := bY7.fr f8 (by simp)
  obtain ⟨q9, x9, DL9, e9, P9, f9, d9⟩ := h5.push (y := x8) (D' := D6) (r := r) t8 rl8 FW8 (fun y hy => by
    rcases nD6 y hy with hh | hh
    · exact h.hD y hh
    · have := h5.fr.size; omega) (fun y hy hl => by
    rcases nD6 y hy with hh | hh
    · exact h.ap y hh hl
    · have := h5.rl.lt y hl; omega) (v := v8) o8.slC (fun h0 y hy => ⟨own_lt o8 y hy, fun hd => by have := m8 y hy; have := ltL y hd; omega, fun hd => by have := m8 y hy; have := t7'.lt y hd; omega, by have := m8 y hy; omega⟩) hlen (by rw [hrp]; exact hs)
  have z9 := f9.size
  have bo9 := bo8.fr f9 (fun hm => freshO.2.2 (h.rl.reg _ hm))
  have bX9 := bX8.fr f9 (fun hm => freshX.2.2 (h.rl.reg _ hm))
  have bY9 := bY8.fr f9 (fun hm => freshY.2.2 (h.rl.reg _ hm))
  have lX9 := bX9.ldN (n := 7) rfl
  have lY9 := bY9.ldN (n := 7) rfl
  obtain ⟨x10, e10, f10⟩ := sameRec20 x9 rv0 (q1 := (none, 0, 0)) (q2 := (none, 0, 0)) ⟨rfl, by simp [rv0]⟩ ⟨rfl, by simp [rv0]⟩ (by simp [rv0])
  have P10 := P9.step f10 (by simp)
  have bo10 := bo9.fr f10 (by simp)
  have fa : Fr [] x10 (x10.alloc (.cells #[.int .i64 o.n, .int .i64 o.rtx] 3)) := Fr.alloc _
  have P11 := P10.step fa (by simp)
  obtain ⟨x', e', P'⟩ := tl117 (f0 := false) (f := false) (k0 := (k : Int)) (qs := ql) (u0 := u0) (r := (.bool true, x10)) P11 (Blk.new x10 [.int .i64 o.n, .int .i64 o.rtx] 3)
  have d1 : x10.cell? ⟨x.heap.size, 1, none⟩ = some (.int .i64 o.n) := bo10.cell 1
  have d9' : x10.cell? ⟨x.heap.size, 8 + 1, none⟩ = some (.int .i64 o.rtx) := bo10.cell 9
  have hrec : recs (L ++ [(r, v8)]) = recs L ++ [r] := by unfold recs; rw [List.map_append]; rfl
  refine ⟨x', D6, DL9, _, q9, _, ?_, P', by rw [hrec, sumP_snoc, hrp]; omega, by simp⟩
  have k1 : decide ((k : Int) < (u0.2.1 : Int)) = true := by simp; omega
  have hw := wrap_succ (n := k) (by omega)
  have o0 : x3.cell? ⟨x.heap.size, 0, none⟩ = some (.int .i64 o.k) := bo3.cell 0
  have k0 : (o.k == 0) = true := by simp [hk]
  simp only [RV.arg] at e4 e6 e8 e10
  simp only [RV.cs] at ll3 ll7 lX9 lY9
  simp only [OV.cs] at l1
  simp only [rv0] at e10 lX9 lY9
  have kff : (false == false) = true := rfl
  unfold g3_l6_b
  simp only [k1, i1, l1, s1, hA, hB, addr_add, Nat.zero_add, o0, k0, ll3, e4, s5, l5, e6, c5, obs, asP_pointer, asB_bool, asI_int, asS_string, asSl_slice, asM_map, asTup0, asTup1, asTup2, asTup3, asTup4, asTup5, asTup6, asTup7, asTup8, asTup9, asAgg2, asAgg3, asAgg4, asAgg5, asAgg6, asAgg7, asAgg8, asAgg9, asAgg12, getD0, getD1, getD2, getD3, getD4, getD5, getD6, getD7, getD8, getD9, getD10, getD11, getD12, getD13, getD14, getD15, getD16, getD17, getD18, getD19, Bool.not_true, Bool.not_false, Bool.false_eq_true, Bool.true_eq_false, ↓reduceIte, decide_true, decide_false, Option.isNone_some, Option.isNone_none, Option.isSome_some, Option.isSome_none, beq_self_eq_true, bne_self_eq_false, Bool.and_true, Bool.true_and, Bool.and_false, Bool.false_and, not_true_eq_false, not_false_eq_true]
  refine (g3_l59_x3_of (t := t7) (w' := x7) ?_).trans ?_
  · exact g7
  · unfold g3_l59_x3
    simp only [hA, addr_add, Nat.zero_add, ll7, e8, e9, kff, lX9, lY9, e10, d1, d9', obs, asP_pointer, asB_bool, asI_int, asS_string, asSl_slice, asM_map, asTup0, asTup1, asTup2, asTup3, asTup4, asTup5, asTup6, asTup7, asTup8, asTup9, asAgg2, asAgg3, asAgg4, asAgg5, asAgg6, asAgg7, asAgg8, asAgg9, asAgg12, getD0, getD1, getD2, getD3, getD4, getD5, getD6, getD7, getD8, getD9, getD10, getD11, getD12, getD13, getD14, getD15, getD16, getD17, getD18, getD19, Bool.not_true, Bool.not_false, Bool.false_eq_true, Bool.true_eq_false, ↓reduceIte, decide_true, decide_false, Option.isNone_some, Option.isNone_none, Option.isSome_some, Option.isSome_none, beq_self_eq_true, bne_self_eq_false, Bool.and_true, Bool.true_and, Bool.and_false, Bool.false_and, not_true_eq_false, not_false_eq_true]
    rw [hw] at e'
    exact e'
end
end Go.Proofs.Ytlcojbodcbjkaaa
