/-
  TxnNa: lemmas on what Go functions of this seat come to (for whatever arguments, as each says). No condition but those that stand in each lemma.
-/
import Derived.Test.YtlcojbodcbjkaaaTxnK1
import Derived.Test.YtlcojbodcbjkaaaLr
import Derived.Test.YtlcojbodcbjkaaaTxnK
namespace Go.Proofs.Ytlcojbodcbjkaaa
open Go Go.Ev
set_option maxRecDepth 100000
set_option linter.unusedVariables false
set_option linter.unusedSimpArgs false

abbrev Sh := Option Addr × Nat × Nat

def opsR0 : Array Oper := #[{ dst := some 2, op := .box 28 (.tmp 0), type := 0, pos := "iter.go:50", after := #[], guard := none }, { dst := some 4, op := .assign (.const (.slice none 0 0)), type := 28, pos := "iter.go:50", after := #[], guard := none }]
def opsR1 : Array Oper := #[{ dst := some 6, op := .move (.tmp 1), type := 81, pos := "iter.go:51", after := #[], guard := none }]
def opsR2 : Array Oper := #[{ dst := some 5, op := .assign (.tmp 7), type := 3, pos := "iter.go:51", after := #[], guard := none }]
def opsR3 : Array Oper := #[{ dst := some 8, op := .load 28 (.tmp 2), type := 28, pos := "iter.go:52", after := #[], guard := none }, { dst := some 9, op := .move (.tmp 5), type := 3, pos := "iter.go:52", after := #[], guard := none },
  { dst := some 10, op := .buildSlice 28 1 #[(0, .tmp 9)], type := 28, pos := "iter.go:52", after := #[{ on := 1, ground := .data }], guard := none },
  { dst := some 11, op := .call { callee := .builtin .append, args := #[.tmp 8, .tmp 10], argTypes := #[28, 28] }, type := 28, pos := "iter.go:52", after := #[{ on := 0, ground := .data }, { on := 2, ground := .data }], guard := none },
  { dst := none, op := .store 28 (.tmp 2) (.tmp 11), type := 0, pos := "iter.go:52", after := #[{ on := 3, ground := .data }, { on := 3, ground := .chain }, { on := 0, ground := .phase }, { on := 1, ground := .phase }, { on := 2, ground := .phase }, { on := 3, ground := .phase }], guard := none }]
def opsR4 : Array Oper := #[{ dst := some 12, op := .load 28 (.tmp 2), type := 28, pos := "iter.go:54", after := #[], guard := none }, { dst := some 4, op := .assign (.tmp 12), type := 28, pos := "iter.go:54", after := #[{ on := 0, ground := .data }, { on := 0, ground := .phase }], guard := none }]
def sqA : Code := .region 2 opsR2 false
def sqB : Code := .block 1 (.region 3 opsR3 false)
theorem body82 : Try.f82.body = some (.seq (.region 0 opsR0 false) (.seq (.seq (.region 1 opsR1 false) (.block 0 (.rangeFunc (.tmp 6) #[7] sqA sqB))) (.seq (.region 4 opsR4 false) .ret))) := by kernel_rfl

def apT (sv : Value) (Bs : Nat) : Array Value := #[.slice none 0 0, sv, .pointer (some ⟨Bs, 0, none⟩), undef, .slice none 0 0, undef, sv, undef, undef, undef, undef, undef, undef]
def apRec (sv : Value) (Bs D : Nat) (st : LoopState) : Loop := { state := st, pending := none, fn := 82, tmps := apT sv Bs, params := #[7], assign := sqA, body := sqB, defers := D }
theorem plain2 : ∀ (i : Nat) (o : Oper), opsR2[i]? = some o → Plain Try.prog o := by
  intro i o h
  match i with
  | 0 => cases h; exact plain_value (by intro c h; cases h) (fun ρ => pure (ρ (.tmp 7))) (fun ρ => rfl)
  | i + 1 => simp [opsR2] at h
theorem plain3 : ∀ (i : Nat) (o : Oper), opsR3[i]? = some o → Plain Try.prog o := by
  intro i o h
  match i with
  | 0 => cases h; exact plain_value (by intro c h; cases h) _ (fun ρ => rfl)
  | 1 => cases h; exact plain_value (by intro c h; cases h) (fun ρ => pure (ρ (.tmp 5))) (fun ρ => rfl)
  | 2 => cases h; exact plain_value (by intro c h; cases h) _ (fun ρ => rfl)
  | 3 => cases h; exact plain_value (by intro c h; cases h) _ (fun ρ => rfl)
  | 4 => cases h; exact plain_unit (by intro c h; cases h) _ (fun ρ => rfl)
  | i + 5 => simp [opsR3] at h

def apTk (sv : Value) (Bs : Nat) (k : Int) : Array Value := (apT sv Bs).setIfInBounds 7 (.int .i64 k)
theorem ev2 (sv : Value) (Bs : Nat) (k : Int) (W : World) : evIdx Try.prog 13 opsR2 (List.range opsR2.size) (initEnv (apTk sv Bs k)) W (fun ρ w => some (ρ, w)) = some (Env.put 13 (initEnv (apTk sv Bs k)) (some 5) (.int .i64 k), W) := by kernel_rfl
theorem ev3 (sv : Value) (Bs : Nat) (k : Int) (W : World) : evIdx Try.prog 13 opsR3 (List.range opsR3.size) (Env.put 13 (initEnv (apTk sv Bs k)) (some 5) (.int .i64 k)) W (fun _ w => some w) =
    (World.cell? W ⟨Bs, 0, none⟩).bind fun v => (asSl v).bind fun q => (callB Try.prog .append #[28, 28] 28 #[false, false] #[.slice q.1 q.2.1 q.2.2, .slice (some ⟨W.heap.size, 0, none⟩) 1 1] (W.alloc (.cells #[.int .i64 k] 3))).bind fun r => (asSl r.1).bind fun q2 => (st1 r.2 ⟨Bs, 0, none⟩ (.slice q2.1 q2.2.1 q2.2.2)).bind fun w => some w := by kernel_rfl

/-- what changes of an object that is no row of cells -/
theorem fr_putObj {w : World} {r : Nat} {o : Obj} : Fr [r] w (w.putObj r o) :=
  ⟨rfl, rfl, rfl, by simp [World.putObj], fun k _ hk => by
    have : r ≠ k := fun e => hk (by simp [e])
    simp [World.putObj, Array.getElem?_setIfInBounds, this]⟩
theorem putObj_same {w : World} {r : Nat} {o : Obj} (h : r < w.heap.size) : (w.putObj r o).heap[r]? = some o := by simp [World.putObj, h]

/-- between two rounds -/
structure RA (W0 W : World) (sv : Value) (Bs l D : Nat) (q : Sh) (ss : List Int) : Prop where
  lrec : W.heap[l]? = some (.loop (apRec sv Bs D .ready))
  dfr : W.heap[D]? = some (.deferred (some []))
  box : Blk W Bs [.slice q.1 q.2.1 q.2.2] 28
  own : Own W 3 1 q (intsV' ss)
  fr : Fr [] W0 W
  new : ∀ y ∈ blkOf q, W0.heap.size ≤ y

theorem ne_of_obj {w : World} {a b : Nat} {o o' : Obj} (h : w.heap[a]? = some o) (h' : w.heap[b]? = some o') (hne : o ≠ o') : a ≠ b := by
  intro e
  subst e
  rw [h] at h'
  exact hne (Option.some.inj h')
theorem blk_obj {w : World} {g : Nat} {cs : List Value} {T : TypeId} (h : Blk w g cs T) : ∃ c, w.heap[g]? = some (.cells c T (0, 0)) := ⟨_, h⟩
theorem own_obj {w : World} {q : Sh} {xs : List Value} {T : TypeId} {n : Nat} (h : Own w T n q xs) : ∀ y ∈ blkOf q, ∃ c, w.heap[y]? = some (.cells c T (0, 0)) := by
  intro y hy
  rcases h.at_ with ⟨h1, _⟩ | ⟨g, off, cur, h1, h2, _⟩
  · simp [blkOf, h1] at hy
  · simp [blkOf, h1] at hy
    subst hy
    exact ⟨cur, h2⟩

theorem round82 {W0 W : World} {sv : Value} {Bs l D : Nat} {q : Sh} {ss : List Int} (h : RA W0 W sv Bs l D q ss) (hl0 : W0.heap.size ≤ l) (hB0 : W0.heap.size ≤ Bs) (hlen : ss.length ≤ 100000000) (k : Int) :
    ∃ q' W', callV Try.prog (.func (.yield l) #[] #[]) #[.int .i64 k] W = some (.bool true, W') ∧ RA W0 W' sv Bs l D q' (ss ++ [k]) ∧ Fr (l :: Bs :: blkOf q) W W' := by
  have hml : maxLen = 9223372036854775807 := by decide
  have ol := h.own.len
  simp only [intsV', List.length_map] at ol
  obtain ⟨cb, hcb⟩ := blk_obj h.box
  have lB : l ≠ Bs := ne_of_obj h.lrec hcb (by intro e; cases e)
  have lD : l ≠ D := ne_of_obj h.lrec h.dfr (by intro e; cases e)
  have BD : Bs ≠ D := ne_of_obj hcb h.dfr (by intro e; cases e)
  have lq : l ∉ blkOf q := fun hm => by obtain ⟨c, hc⟩ := own_obj h.own l hm; exact ne_of_obj h.lrec hc (by intro e; cases e) rfl
  have Dq : D ∉ blkOf q := fun hm => by obtain ⟨c, hc⟩ := own_obj h.own D hm; exact ne_of_obj h.dfr hc (by intro e; cases e) rfl
  have Bq : Bs ∉ blkOf q := h.box.notin h.own (by decide)
  have ll : l < W.heap.size := lt_of_blk h.lrec
  have lDD : D < W.heap.size := lt_of_blk h.dfr
  -- the record is busy
  obtain ⟨W2, hW2⟩ : ∃ W2, W.putObj l (.loop (apRec sv Bs D .busy)) = W2 := ⟨_, rfl⟩
  have f2 : Fr [l] W W2 := by rw [← hW2]; exact fr_putObj
  have r2 : W2.heap[l]? = some (.loop (apRec sv Bs D .busy)) := by rw [← hW2]; exact putObj_same ll
  have B2 := h.box.fr f2 (by simp; exact lB.symm)
  have O2 := h.own.fr f2 (fun y hy hm => by simp at hm; subst hm; exact lq hy)
  have D2 := f2.blk h.dfr (by simp; exact lD.symm)
  -- what is appended
  obtain ⟨q3, W3, e3, o3, f3, n3, m3⟩ := app_one t28 O2 (ys := [.int .i64 k]) rfl (by intro y hy; simp at hy; subst hy; rfl) (by omega) (by omega) 28 #[false, false]
  have z2 := f2.size
  have z3 := f3.size
  have lB2 := B2.lt
  have B3 := B2.fr f3 Bq
  have r3 := f3.blk r2 lq
  have D3 := f3.blk D2 Dq
  obtain ⟨W4, s4, b4, f4⟩ := blk_put B3 (i := 0) (v := .slice q3.1 q3.2.1 q3.2.2) (by simp) rfl
  have Bq3 : Bs ∉ blkOf q3 := B3.notin o3 (by decide)
  have o4 := o3.fr f4 (fun y hy hm => by simp at hm; subst hm; exact Bq3 hy)
  have r4 := f4.blk r3 (by simp; exact lB)
  have D4 := f4.blk D3 (by simp; exact BD.symm)
  have z4 := f4.size
  -- and ready again
  obtain ⟨W5, hW5⟩ : ∃ W5, W4.putObj l (.loop (apRec sv Bs D .ready)) = W5 := ⟨_, rfl⟩
  have f5 : Fr [l] W4 W5 := by rw [← hW5]; exact fr_putObj
  have lq3 : l ∉ blkOf q3 := fun hm => by obtain ⟨c, hc⟩ := own_obj o4 l hm; exact ne_of_obj r4 hc (by intro e; cases e) rfl
  have F : Fr (l :: Bs :: blkOf q) W W5 := ((((f2.app f3).app f4).app f5)).mono (by
    intro y hy hl
    simp only [List.mem_append, List.mem_cons, List.not_mem_nil, or_false] at hy ⊢
    grind)
  refine ⟨q3, W5, ?_, ⟨by rw [← hW5]; exact putObj_same (lt_of_blk r4), f5.blk D4 (by simp; exact lD.symm), b4.fr f5 (by simp; exact lB.symm), ?_, ?_, ?_⟩, F⟩
  · refine callV_yield h.lrec rfl (roundIn_of_wpIn trivial ?_)
    have hT : ((apRec sv Bs D .ready).params.zip #[Value.int .i64 k]).foldl (fun tmps (t, a) => tmps.setIfInBounds t a) (apRec sv Bs D .ready).tmps = apTk sv Bs k := by simp [apRec, apTk, apT]
    rw [hT]
    show (sqA).wpIn _ _ _ _ _ _
    refine region_round plain2 (agree_init rfl) (ev2 sv Bs k W) ?_
    intro a1 ρ1 w1 ha1 h1
    simp only [Option.some.injEq, Prod.mk.injEq] at h1
    obtain ⟨rfl, rfl⟩ := h1
    refine ⟨W2, ?_, ?_⟩
    · rw [← hW2]; exact run_beginRound h.lrec rfl
    · show (sqB).wpIn _ _ _ _ _ _
      refine wpIn_block ?_
      have cB : W2.cell? ⟨Bs, 0, none⟩ = some (.slice q.1 q.2.1 q.2.2) := B2.cell 0
      have E : evIdx Try.prog 13 opsR3 (List.range opsR3.size) (Env.put 13 (initEnv (apTk sv Bs k)) (some 5) (.int .i64 k)) W2 (fun _ w => some w) = some W4 := by
        rw [ev3]
        have e3' : callB Try.prog .append #[28, 28] 28 #[false, false] #[.slice q.1 q.2.1 q.2.2, .slice (some ⟨W2.heap.size, 0, none⟩) 1 1] (W2.alloc (.cells #[.int .i64 k] 3)) = some (.slice q3.1 q3.2.1 q3.2.2, W3) := e3
        simp only [cB, e3', s4, obs, asP_pointer, asB_bool, asI_int, asS_string, asSl_slice, asM_map, asTup0, asTup1, asTup2, asTup3, asTup4, asTup5, asTup6, asTup7, asTup8, asTup9, asAgg2, asAgg3, asAgg4, asAgg5, asAgg6, asAgg7, asAgg8, asAgg9, asAgg12, getD0, getD1, getD2, getD3, getD4, getD5, getD6, getD7, getD8, getD9, getD10, getD11, getD12, getD13, getD14, getD15, getD16, getD17, getD18, getD19, Bool.not_true, Bool.not_false, Bool.false_eq_true, Bool.true_eq_false, ↓reduceIte, decide_true, decide_false, Option.isNone_some, Option.isNone_none, Option.isSome_some, Option.isSome_none, beq_self_eq_true, bne_self_eq_false, Bool.and_true, Bool.true_and, Bool.and_false, Bool.false_and, not_true_eq_false, not_false_eq_true]
      refine region_round plain3 ha1 E ?_
      intro a2 ρ2 w2 ha2 h2
      simp only [Option.some.injEq] at h2
      subst h2
      refine ⟨_, _, run_endRound none r4, ?_⟩
      exact ⟨rfl, hW5⟩
  · have e : intsV' (ss ++ [k]) = intsV' ss ++ [.int .i64 k] := by simp [intsV']
    rw [e]
    exact o4.fr f5 (fun y hy hm => by simp at hm; subst hm; exact lq3 hy)
  · exact (h.fr.app F).mono (by
      intro y hy hl
      simp only [List.mem_append, List.mem_cons, List.not_mem_nil, false_or] at hy
      rcases hy with rfl | rfl | hy
      · omega
      · omega
      · have := h.new y hy; omega)
  · intro y hy
    rcases n3 y hy with hh | hh
    · exact h.new y hh
    · have := h.fr.size; omega
end Go.Proofs.Ytlcojbodcbjkaaa
