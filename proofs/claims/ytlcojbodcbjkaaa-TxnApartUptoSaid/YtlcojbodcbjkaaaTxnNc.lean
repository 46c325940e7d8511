/-
  TxnNc: lemmas on what Go functions of this seat come to (for whatever arguments, as each says). No condition but those that stand in each lemma.
-/
import Derived.Test.YtlcojbodcbjkaaaTxnNb
import Derived.Test.YtlcojbodcbjkaaaTxnSf
namespace Go.Proofs.Ytlcojbodcbjkaaa
open Go Go.Ev
set_option maxRecDepth 100000
set_option linter.unusedVariables false
set_option linter.unusedSimpArgs false

def sqV (u : Nat) : Value := .func (.func 66) #[] #[.pointer (some ⟨u, 0, none⟩)]
def T0 (u : Nat) : Array Value := #[.slice none 0 0, sqV u, undef, undef, undef, undef, undef, undef, undef, undef, undef, undef, undef]
def ρ0 (u Bs : Nat) : Env := Env.put 13 (Env.put 13 (initEnv (T0 u)) (some 2) (.pointer (some ⟨Bs, 0, none⟩))) (some 4) (.slice none 0 0)
def ρ1 (u Bs : Nat) : Env := Env.put 13 (ρ0 u Bs) (some 6) (sqV u)
theorem ev0 (u : Nat) (w : World) : evIdx Try.prog 13 opsR0 (List.range opsR0.size) (initEnv (T0 u)) w (fun ρ w => some (ρ, w)) = some (ρ0 u w.heap.size, w.alloc (.cells #[.slice none 0 0] 28)) := by kernel_rfl
theorem ev1 (u Bs : Nat) (w : World) : evIdx Try.prog 13 opsR1 (List.range opsR1.size) (ρ0 u Bs) w (fun ρ w => some (ρ, w)) = some (ρ1 u Bs, w) := by kernel_rfl
theorem ρ1_all (u Bs : Nat) : ∀ t, t < 13 → ρ1 u Bs t = some ((apT (sqV u) Bs).getD t undef) := by
  intro t ht
  match t, ht with
  | 0, _ => rfl
  | 1, _ => rfl
  | 2, _ => rfl
  | 3, _ => rfl
  | 4, _ => rfl
  | 5, _ => rfl
  | 6, _ => rfl
  | 7, _ => rfl
  | 8, _ => rfl
  | 9, _ => rfl
  | 10, _ => rfl
  | 11, _ => rfl
  | 12, _ => rfl
theorem ev4 (u Bs : Nat) (w : World) : evIdx Try.prog 13 opsR4 (List.range opsR4.size) (ρ1 u Bs) w (fun ρ w => (ρ 4).bind fun v => some (v, w)) = (World.cell? w ⟨Bs, 0, none⟩).bind fun v => (asSl v).bind fun q => some (.slice q.1 q.2.1 q.2.2, w) := by kernel_rfl

theorem seq82 {w : World} {u r : Nat} {fs : List (Int × Value)} (hu : Blk w u [.map (some r)] 69) (hm : MapAt (Value.int .i64) w r fs) (hlen : fs.length ≤ 100000000) :
    ∃ (q : Sh) (ss : List Int) (w' : World), callF Try.prog 82 #[.slice none 0 0, sqV u] w = some (.slice q.1 q.2.1 q.2.2, w') ∧ Own w' 3 1 q (intsV' ss) ∧ ss.Perm (fs.map (·.1)) ∧ Fr [] w w' ∧ ∀ y ∈ blkOf q, w.heap.size ≤ y := by
  -- the box, the block for the calls to come, the record
  have f0 : Fr [] w (w.alloc (.cells #[.slice none 0 0] 28)) := Fr.alloc _
  have b0 := Blk.new w [.slice none 0 0] 28
  obtain ⟨w0, hw0⟩ : ∃ w0, w.alloc (.cells #[.slice none 0 0] 28) = w0 := ⟨_, rfl⟩
  have b0' : Blk w0 w.heap.size [.slice none 0 0] 28 := by rw [← hw0]; exact b0
  have z0 : w0.heap.size = w.heap.size + 1 := by rw [← hw0]; exact Array.size_push _
  rw [hw0] at f0
  have fa : Fr [] w0 (w0.alloc (.deferred (some []))) := Fr.alloc _
  have ha0 : (w0.alloc (.deferred (some []))).heap[w0.heap.size]? = some (.deferred (some [])) := alloc_blk_new _
  have za : (w0.alloc (.deferred (some []))).heap.size = w0.heap.size + 1 := Array.size_push _
  obtain ⟨wa, hwa⟩ : ∃ wa, w0.alloc (.deferred (some [])) = wa := ⟨_, rfl⟩
  rw [hwa] at fa ha0 za
  have fb : Fr [] wa (wa.alloc (.loop (apRec (sqV u) w.heap.size w0.heap.size .ready))) := Fr.alloc _
  have hb0 : (wa.alloc (.loop (apRec (sqV u) w.heap.size w0.heap.size .ready))).heap[wa.heap.size]? = some (.loop (apRec (sqV u) w.heap.size w0.heap.size .ready)) := alloc_blk_new _
  have zb : (wa.alloc (.loop (apRec (sqV u) w.heap.size w0.heap.size .ready))).heap.size = wa.heap.size + 1 := Array.size_push _
  obtain ⟨wb, hwb⟩ : ∃ wb, wa.alloc (.loop (apRec (sqV u) w.heap.size w0.heap.size .ready)) = wb := ⟨_, rfl⟩
  rw [hwb] at fb hb0 zb
  have F : Fr [] w wb := (Fr.mono (Fr.app (Fr.app f0 fa) fb) (by have z0_ := Fr.size f0; have z1_ := Fr.size fa; have z2_ := Fr.size fb; intro y_ hy_ hl_; grind [blkOf]))
  have ra : RA w wb (sqV u) w.heap.size wa.heap.size w0.heap.size (none, 0, 0) [] := ⟨hb0, fb.blk ha0 (by simp), (b0'.fr fa (by simp)).fr fb (by simp), Own.nil _ _ _, F, by simp [blkOf]⟩
  have hu' : wb.cell? ⟨u, 0, none⟩ = some (.map (some r)) := (hu.fr F (by simp)).cell 0
  obtain ⟨q, ss, wc, e66, rc, hp⟩ := keys66 (l := wa.heap.size) (D := w0.heap.size) ra (by omega) (by omega) (by omega) hu' (hm.fr F (by simp)) hm.lt hlen
  -- the end of the statement
  obtain ⟨wd, hwd⟩ : ∃ wd, wc.putObj wa.heap.size (.loop { apRec (sqV u) w.heap.size w0.heap.size .ready with state := .exhausted }) = wd := ⟨_, rfl⟩
  have fd : Fr [wa.heap.size] wc wd := by rw [← hwd]; exact fr_putObj
  obtain ⟨cb, hcb⟩ := blk_obj rc.box
  have nl : wa.heap.size ∉ blkOf q := fun hm => by obtain ⟨c, hc⟩ := own_obj rc.own _ hm; exact ne_of_obj rc.lrec hc (by intro e; cases e) rfl
  have nd : w0.heap.size ∉ blkOf q := fun hm => by obtain ⟨c, hc⟩ := own_obj rc.own _ hm; exact ne_of_obj rc.dfr hc (by intro e; cases e) rfl
  have dd : wd.heap[w0.heap.size]? = some (.deferred (some [])) := fd.blk rc.dfr (by simp; omega)
  have bd := rc.box.fr fd (by simp; omega)
  have od := rc.own.fr fd (fun y hy hm => by simp at hm; subst hm; exact nl hy)
  obtain ⟨we, hwe⟩ : ∃ we, wd.putObj w0.heap.size (.deferred none) = we := ⟨_, rfl⟩
  have fe : Fr [w0.heap.size] wd we := by rw [← hwe]; exact fr_putObj
  have oe := od.fr fe (fun y hy hm => by simp at hm; subst hm; exact nd hy)
  have FE : Fr [] w we := ((rc.fr.app fd).app fe).mono (by intro y hy hl; simp at hy; omega)
  refine ⟨q, ss, we, ?_, oe, hp, FE, rc.new⟩
  refine callF_of_calls Try.call82 (by kernel_rfl) (calls_of_wpF_marks Try.func82 body82 ?_)
  have hT : (#[Value.slice none 0 0, sqV u] ++ Array.replicate (Try.f82.ntmps - (#[Value.slice none 0 0, sqV u]).size) undef : Array Value) = T0 u := by kernel_rfl
  rw [hT]
  refine wpF_seq (wpF_of (wpIn_wide.1 (region_wide (agree_init rfl) (ev0 u w) ?_)))
  intro a1 ρa w1 ha1 h1
  simp only [Option.some.injEq, Prod.mk.injEq] at h1
  obtain ⟨rfl, rfl⟩ := h1
  rw [hw0]
  refine wpF_seq (wpF_seq (wpF_of (wpIn_wide.1 (region_wide ha1 (ev1 u w.heap.size w0) ?_))))
  intro a2 ρb w2 ha2 h2
  simp only [Option.some.injEq, Prod.mk.injEq] at h2
  obtain ⟨rfl, h2'⟩ := h2
  have h2' := h2'.symm
  subst h2'
  have htm := ha2.tmps (T := apT (sqV u) w.heap.size) rfl (ρ1_all u w.heap.size)
  have calls := calls_of_callF Try.call66 e66
  have hend := run_endLoop (P := Try.prog) rc.lrec (by intro h; cases h)
  rw [hwd] at hend
  refine wpF_block (wpF_rangeFunc (l := wa.heap.size) (mark := [{ target := .collected w0.heap.size, args := #[] }]) (w1 := wb) (d := { target := .fn (.func 66) #[.pointer (some ⟨u, 0, none⟩)], args := #[.func (.yield wa.heap.size) #[] #[]] }) (w1' := wb) (f' := 66)
    (args := #[.func (.yield wa.heap.size) #[] #[], .pointer (some ⟨u, 0, none⟩)]) (w2 := wb) ?_ ?_ ?_ calls hend ?_)
  · rw [run_enterLoop_outer, htm]
    have e1 : w0.heap.size + 1 = wa.heap.size := za.symm
    rw [e1, hwa]
    show Result.ok _ (wa.alloc (.loop (apRec (sqV u) w.heap.size w0.heap.size .ready))) = _
    rw [hwb]
  · have hev : a2.eval (.tmp 6) = sqV u := by rw [ha2.eval (x := .tmp 6) rfl]; rfl
    simp [resolve, rangeCall, hev, sqV, Deferred.ofValue]
    rfl
  · simp [invoke]

  · -- behind it
    have ha3 : Agree 13 (bare { a2 with defers := [{ target := .collected w0.heap.size, args := #[] }] ++ a2.defers }) (ρ1 u w.heap.size) := ⟨ha2.size, rfl, ha2.get⟩
    have hd3 : ({ a2 with defers := [{ target := .collected w0.heap.size, args := #[] }] ++ a2.defers } : Act).defers = [{ target := .collected w0.heap.size, args := #[] }] := by simp [ha2.defers]
    have cd : wd.cell? ⟨w.heap.size, 0, none⟩ = some (.slice q.1 q.2.1 q.2.2) := bd.cell 0
    have E4 : evIdx Try.prog 13 opsR4 (List.range opsR4.size) (ρ1 u w.heap.size) wd (fun ρ w => (ρ 4).bind fun v => some (v, w)) = some (.slice q.1 q.2.1 q.2.2, wd) := by
      rw [ev4]
      simp only [cd, obs, asP_pointer, asB_bool, asI_int, asS_string, asSl_slice, asM_map, asTup0, asTup1, asTup2, asTup3, asTup4, asTup5, asTup6, asTup7, asTup8, asTup9, asAgg2, asAgg3, asAgg4, asAgg5, asAgg6, asAgg7, asAgg8, asAgg9, asAgg12, getD0, getD1, getD2, getD3, getD4, getD5, getD6, getD7, getD8, getD9, getD10, getD11, getD12, getD13, getD14, getD15, getD16, getD17, getD18, getD19, Bool.not_true, Bool.not_false, Bool.false_eq_true, Bool.true_eq_false, ↓reduceIte, decide_true, decide_false, Option.isNone_some, Option.isNone_none, Option.isSome_some, Option.isSome_none, beq_self_eq_true, bne_self_eq_false, Bool.and_true, Bool.true_and, Bool.and_false, Bool.false_and, not_true_eq_false, not_false_eq_true]
    refine wpF_seq (wpF_of (wpIn_wide.1 (region_mark ha3 hd3 E4 ?_)))
    intro a4 ρd w4 ha4 hd4 h4
    obtain ⟨v4, hv4, h5⟩ : ∃ v, ρd 4 = some v ∧ (v, w4) = (Value.slice q.1 q.2.1 q.2.2, wd) := by
      cases hv : ρd 4 with
      | none => rw [hv] at h4; cases h4
      | some v => rw [hv] at h4; exact ⟨v, rfl, Option.some.inj h4⟩
    simp only [Prod.mk.injEq] at h5
    obtain ⟨rfl, rfl⟩ := h5
    refine wpF_of (wp_ret ?_)
    show LeavesInM _ _ _ _ _ _ _ _ _
    rw [hd4]
    refine ⟨by simp, .inl ⟨_, _, rfl, run_takeDeferred dd, ?_⟩⟩
    refine ⟨_, results_tmp (t := 4) rfl _ _ _, ?_, hwe⟩
    have := ha4.get 4 _ hv4
    rw [this]
end Go.Proofs.Ytlcojbodcbjkaaa
