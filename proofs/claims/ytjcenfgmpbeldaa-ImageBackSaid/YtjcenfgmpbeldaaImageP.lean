/-
  ImageP: lemmas on what Go functions of this seat come to (for whatever arguments, as each says). No condition but those that stand in each lemma.
-/
import Derived.Test.YtjcenfgmpbeldaaImageF0
import Derived.Laws.LoneSync
import Derived.Test.YtjcenfgmpbeldaaImageSp
namespace Go.Proofs.Ytjcenfgmpbeldaa
open Go Go.Ev
set_option maxRecDepth 100000
set_option linter.unusedVariables false
set_option linter.unusedSimpArgs false
variable {w : World}

/-! ## sync/atomic -/
theorem load100 {a : Addr} {n : Int} (h : w.cell? a = some (.int .u64 n)) : callF Try.prog 100 #[.pointer (some a)] w = some (.int .u64 n, w) := by
  unfold callF
  rw [run_call_load Try.func100 (by kernel_rfl) (by kernel_rfl) (by kernel_rfl) .u64 (by kernel_rfl) h]
  rfl
theorem store83 {a : Addr} {n : Int} {u : Value} (h : w.cell? a = some u) (hf : w.frozen? a = false) :
    callF Try.prog 83 #[.pointer (some a), .int .u64 n] w = some (.tuple #[], w.setCell a (.int .u64 n)) := by
  unfold callF
  rw [run_call_store Try.func83 (by kernel_rfl) (by kernel_rfl) (by kernel_rfl) (by kernel_rfl) h hf]
  rfl
theorem cas107 {a : Addr} {x y : Int} (h : w.cell? a = some (.int .u64 x)) (hf : w.frozen? a = false) :
    callF Try.prog 107 #[.pointer (some a), .int .u64 x, .int .u64 y] w = some (.bool true, w.setCell a (.int .u64 y)) := by
  unfold callF
  rw [run_call_cas_hit Try.func107 (by kernel_rfl) (by kernel_rfl) (by kernel_rfl) .u64 (by kernel_rfl) h hf]
  rfl

theorem load78 {a : Addr} {n : Int} (h : w.cell? a = some (.int .u64 n)) : callF Try.prog 78 #[.pointer (some a)] w = some (.int .u64 n, w) :=
  g78_call (by simp [g78, load100 h])
theorem store67 {a : Addr} {n : Int} {u : Value} (h : w.cell? a = some u) (hf : w.frozen? a = false) :
    callF Try.prog 67 #[.pointer (some a), .int .u64 n] w = some (.tuple #[], w.setCell a (.int .u64 n)) :=
  g67_call (by simp [g67, store83 h hf])
theorem cas99 {a : Addr} {x y : Int} (h : w.cell? a = some (.int .u64 x)) (hf : w.frozen? a = false) :
    callF Try.prog 99 #[.pointer (some a), .int .u64 x, .int .u64 y] w = some (.bool true, w.setCell a (.int .u64 y)) :=
  g99_call (by simp [g99, cas107 h hf])

/-! ## the counter -/
/-- a counter in memory: the next number, and where they end -/
def Ctr (w : World) (b : Nat) (x l : Int) : Prop := w.heap[b]? = some (.cells #[.int .u64 x, .int .u64 l] 118 (0, 0))

theorem Ctr.next {b : Nat} {x l : Int} (h : Ctr w b x l) : w.cell? ⟨b, 0, none⟩ = some (.int .u64 x) := by rw [cell_blk h]; rfl
theorem Ctr.limit {b : Nat} {x l : Int} (h : Ctr w b x l) : w.cell? ⟨b, 1, none⟩ = some (.int .u64 l) := by rw [cell_blk h]; rfl
theorem Ctr.set {b : Nat} {x l y : Int} (h : Ctr w b x l) : Ctr (w.setCell ⟨b, 0, none⟩ (.int .u64 y)) b y l := by
  unfold Ctr; rw [setCell_blk h]; rfl
theorem Ctr.drew {b : Nat} {x l : Int} (h : Ctr w b x l) : Ctr w.drew b x l := h
theorem Ctr.fr {b : Nat} {x l : Int} {S : List Nat} {w' : World} (h : Ctr w b x l) (hf : Fr S w w') (hb : b ∉ S) : Ctr w' b x l := hf.blk h hb

theorem new34 (f l : Int) : ∃ w', callF Try.prog 34 #[.int .u64 f, .int .u64 l] w = some (.pointer (some ⟨w.heap.size, 0, none⟩), w') ∧
    Ctr w' w.heap.size (if l < f then l else f) l ∧ Fr [] w w' := by
  have h0 : Ctr (w.alloc (.cells #[.int .u64 0, .int .u64 l] 118)) w.heap.size 0 l := alloc_blk_new _
  refine ⟨(w.alloc (.cells #[.int .u64 0, .int .u64 l] 118)).setCell ⟨w.heap.size, 0, none⟩ (.int .u64 (if l < f then l else f)), ?_, h0.set, ?_⟩
  · refine g34_call ?_
    simp [g34, store67 h0.next (frozen_blk h0 _)]
  · refine ((Fr.alloc _).nil.trans Fr.setCell).mono ?_
    intro x hx hlt
    simp at hx; omega

/-- what Block answers, and the next number behind it -/
def blockOf (x l n : Int) : Int × Bool × Int := if n = 0 ∨ n > l - x then (0, false, x) else (x, true, x + n)

theorem block77 {b : Nat} {x l n : Int} (h : Ctr w b x l) (hx : 0 ≤ x) (hxl : x ≤ l) (hl : l < 18446744073709551616) (hn : 0 ≤ n) (hn2 : n < 18446744073709551616) :
    ∃ w', callF Try.prog 77 #[.pointer (some ⟨b, 0, none⟩), .int .u64 n] w = some (.tuple #[.int .u64 (blockOf x l n).1, .bool (blockOf x l n).2.1], w') ∧
      Ctr w' b (blockOf x l n).2.2 l ∧ Fr [b] w w' := by
  by_cases hn0 : n = 0
  · subst hn0
    refine ⟨w, g77_call ?_, ?_, Fr.refl _ _⟩
    · simp [g77, blockOf]
    · simpa [blockOf] using h
  · have hw : IntKind.u64.wrap (l - x) = l - x := wrap_u64 (by omega) (by omega)
    by_cases hgt : n > l - x
    · refine ⟨w, g77_call ?_, ?_, Fr.refl _ _⟩
      · have hl : loopS (g77_l1_b (some ⟨b, 0, none⟩) n) (0, false) w = some (.ret, (0, false), w) := by
          refine loopS_out (by simp) ?_
          have : Addr.add ⟨b, 0, none⟩ 1 = ⟨b, 1, none⟩ := rfl
          simp [g77_l1_b, load78 h.next, this, h.limit, hw, hgt]
        simp [g77, hn0, g77_l1_ret_of hl, g77_l1_ret, blockOf, hgt]
      · simpa [blockOf, hgt] using h
    · have hw2 : IntKind.u64.wrap (x + n) = x + n := wrap_u64 (by omega) (by omega)
      refine ⟨w.setCell ⟨b, 0, none⟩ (.int .u64 (x + n)), g77_call ?_, ?_, Fr.setCell⟩
      · have hl : loopS (g77_l1_b (some ⟨b, 0, none⟩) n) (0, false) w = some (.ret, (x, true), w.setCell ⟨b, 0, none⟩ (.int .u64 (x + n))) := by
          refine loopS_out (by simp) ?_
          have : Addr.add ⟨b, 0, none⟩ 1 = ⟨b, 1, none⟩ := rfl
          simp [g77_l1_b, load78 h.next, this, h.limit, hw, hgt, hw2, cas99 h.next (frozen_blk h _)]
        simp [g77, hn0, g77_l1_ret_of hl, g77_l1_ret, blockOf, hgt]
      · have : blockOf x l n = (x, true, x + n) := by simp [blockOf, hn0, hgt]
        rw [this]; exact h.set

theorem left42 {b : Nat} {x l : Int} (h : Ctr w b x l) (hx : 0 ≤ x) (hxl : x ≤ l) (hl : l < 18446744073709551616) :
    callF Try.prog 42 #[.pointer (some ⟨b, 0, none⟩)] w = some (.tuple #[.int .u64 x, .int .u64 (l - x)], w.drew) := by
  have ha : Addr.add ⟨b, 0, none⟩ 1 = ⟨b, 1, none⟩ := rfl
  have hw : IntKind.u64.wrap (l - x) = l - x := wrap_u64 (by omega) (by omega)
  exact g42_call (by simp [g42, load78 h.next, ha, h.limit, hw])

end Go.Proofs.Ytjcenfgmpbeldaa

namespace Go.Proofs.Ytjcenfgmpbeldaa
open Go Go.Ev
set_option maxRecDepth 100000
set_option linter.unusedVariables false
set_option linter.unusedSimpArgs false

theorem index62 {w : World} {q : Option Addr × Nat × Nat} {l : List Int} (h : SlC w 1 q (l.map (Value.int .i64))) (hn : l.length < 9223372036854775807) (v : Int) :
    ∃ n : Int, callF Try.prog 95 #[.slice q.1 q.2.1 q.2.2, .int .i64 v] w = some (.int .i64 n, w) ∧ (0 ≤ n ↔ v ∈ l) := by
  have hl := h.1
  simp only [List.length_map] at hl
  obtain ⟨e, t, w', g1, hQ⟩ := loopS_rule (b := g95_l2_b q v) (I := fun k s x => s = ((0 : Int), (k : Int)) ∧ x = w ∧ v ∉ l.take k)
    (Q := fun e s x => x = w ∧ (e = .ret ∧ 0 ≤ s.1 ∧ v ∈ l ∨ e = .exit 0 ∧ v ∉ l)) (n := l.length)
    (fun k s x hk ⟨hs, hx, hv⟩ => by
      subst hs hx
      obtain ⟨a, i1, c1⟩ := h.get (i := k) (by simpa using hk)
      have k1 : decide ((k : Int) < (q.2.1 : Int)) = true := by simp; omega
      have c1' : x.cell? a = some (.int .i64 l[k]) := by rw [c1]; simp
      have hw := wrap_succ (n := k) (by omega)
      by_cases he : v = l[k]
      · have k2 : (v == l[k]) = true := by simp [he]
        refine ⟨.ret, ((k : Int), (k : Int)), x, ?_, .inr ⟨by simp, rfl, .inl ⟨rfl, by simp, by rw [he]; exact List.getElem_mem hk⟩⟩⟩
        unfold g95_l2_b
        simp only [k1, i1, c1', k2, obs, asP_pointer, asB_bool, asI_int, asS_string, asSl_slice, asM_map, asTup0, asTup1, asTup2, asTup3, asTup4, asTup5, asTup6, asTup7, asTup8, asTup9, asAgg2, asAgg3, asAgg4, asAgg5, asAgg6, asAgg7, asAgg8, asAgg9, asAgg12, getD0, getD1, getD2, getD3, getD4, getD5, getD6, getD7, getD8, getD9, getD10, getD11, getD12, getD13, getD14, getD15, getD16, getD17, getD18, getD19, Bool.not_true, Bool.not_false, Bool.false_eq_true, Bool.true_eq_false, ↓reduceIte, decide_true, decide_false, Option.isNone_some, Option.isNone_none, Option.isSome_some, Option.isSome_none, beq_self_eq_true, bne_self_eq_false, Bool.and_true, Bool.true_and, Bool.and_false, Bool.false_and, not_true_eq_false, not_false_eq_true]
      · have k2 : (v == l[k]) = false := by simp [he]
        refine ⟨.normal, ((0 : Int), ((k + 1 : Nat) : Int)), x, ?_, .inl ⟨rfl, rfl, rfl, ?_⟩⟩
        · unfold g95_l2_b
          simp only [k1, i1, c1', k2, hw, obs, asP_pointer, asB_bool, asI_int, asS_string, asSl_slice, asM_map, asTup0, asTup1, asTup2, asTup3, asTup4, asTup5, asTup6, asTup7, asTup8, asTup9, asAgg2, asAgg3, asAgg4, asAgg5, asAgg6, asAgg7, asAgg8, asAgg9, asAgg12, getD0, getD1, getD2, getD3, getD4, getD5, getD6, getD7, getD8, getD9, getD10, getD11, getD12, getD13, getD14, getD15, getD16, getD17, getD18, getD19, Bool.not_true, Bool.not_false, Bool.false_eq_true, Bool.true_eq_false, ↓reduceIte, decide_true, decide_false, Option.isNone_some, Option.isNone_none, Option.isSome_some, Option.isSome_none, beq_self_eq_true, bne_self_eq_false, Bool.and_true, Bool.true_and, Bool.and_false, Bool.false_and, not_true_eq_false, not_false_eq_true]
        · rw [List.take_succ_eq_append_getElem hk]
          intro hm
          rcases List.mem_append.mp hm with hm | hm
          · exact hv hm
          · simp only [List.mem_singleton] at hm; exact he hm)
    (fun s x ⟨hs, hx, hv⟩ => by
      subst hs hx
      rw [List.take_length] at hv
      refine ⟨.exit 0, ((0 : Int), (l.length : Int)), x, ?_, by simp, rfl, .inr ⟨rfl, hv⟩⟩
      unfold g95_l2_b
      have k1 : decide ((l.length : Int) < (q.2.1 : Int)) = false := by simp; omega
      simp only [k1, Bool.false_eq_true, if_false]) (k := 0) (s := ((0 : Int), (0 : Int))) (w := w) (Nat.zero_le _) ⟨rfl, rfl, by simp⟩
  obtain ⟨rfl, hQ⟩ := hQ
  rcases hQ with ⟨rfl, h0, hv⟩ | ⟨rfl, hv⟩
  · refine ⟨t.1, g95_call ?_, by simp [h0, hv]⟩
    unfold g95
    rw [g95_l2_ret_of g1, g95_l2_ret]
  · refine ⟨-1, g95_call ?_, by simp [hv]⟩
    unfold g95
    rw [g95_l2_x0_of g1, g95_l2_x0]

theorem contains32 {w : World} {q : Option Addr × Nat × Nat} {l : List Int} (h : SlC w 1 q (l.map (Value.int .i64))) (hn : l.length < 9223372036854775807) (v : Int) :
    callF Try.prog 70 #[.slice q.1 q.2.1 q.2.2, .int .i64 v] w = some (.bool (decide (v ∈ l)), w) := by
  obtain ⟨n, e, hv⟩ := index62 h hn v
  refine g70_call ?_
  unfold g70
  simp only [e, obs, asP_pointer, asB_bool, asI_int, asS_string, asSl_slice, asM_map, asTup0, asTup1, asTup2, asTup3, asTup4, asTup5, asTup6, asTup7, asTup8, asTup9, asAgg2, asAgg3, asAgg4, asAgg5, asAgg6, asAgg7, asAgg8, asAgg9, asAgg12, getD0, getD1, getD2, getD3, getD4, getD5, getD6, getD7, getD8, getD9, getD10, getD11, getD12, getD13, getD14, getD15, getD16, getD17, getD18, getD19, Bool.not_true, Bool.not_false, Bool.false_eq_true, Bool.true_eq_false, ↓reduceIte, decide_true, decide_false, Option.isNone_some, Option.isNone_none, Option.isSome_some, Option.isSome_none, beq_self_eq_true, bne_self_eq_false, Bool.and_true, Bool.true_and, Bool.and_false, Bool.false_and, not_true_eq_false, not_false_eq_true]
  by_cases h0 : v ∈ l
  · have := hv.2 h0
    simp [h0]; omega
  · have : ¬ (0 ≤ n) := fun hh => h0 (hv.1 hh)
    simp [h0]; omega

theorem t28 : TSl Try.prog 28 3 1 8 := tsl_of Try.underlying28 (by kernel_rfl)

theorem clone36 {w : World} {q : Option Addr × Nat × Nat} {l : List Int} (h : SlC w 1 q (l.map (Value.int .i64))) (hq : q.1 = none → q.2.1 = 0) (hn : l.length ≤ 1000000000) :
    ∃ q' w', callF Try.prog 36 #[.slice q.1 q.2.1 q.2.2] w = some (.slice q'.1 q'.2.1 q'.2.2, w') ∧ Own w' 3 1 q' (l.map (Value.int .i64)) ∧ Fr [] w w' ∧ ∀ y ∈ blkOf q', w.heap.size ≤ y := by
  have hl := h.1
  simp only [List.length_map] at hl
  have hml : maxLen = 9223372036854775807 := by decide
  cases hq1 : q.1 with
  | none =>
    have := hq hq1
    have : l = [] := List.eq_nil_of_length_eq_zero (by omega)
    subst this
    refine ⟨(none, 0, 0), w, g36_call (u0 := (none, q.2.1, q.2.2)) ?_, Own.nil _ _ _, Fr.refl _ _, by simp [blkOf]⟩
    unfold g36
    simp only [obs, asP_pointer, asB_bool, asI_int, asS_string, asSl_slice, asM_map, asTup0, asTup1, asTup2, asTup3, asTup4, asTup5, asTup6, asTup7, asTup8, asTup9, asAgg2, asAgg3, asAgg4, asAgg5, asAgg6, asAgg7, asAgg8, asAgg9, asAgg12, getD0, getD1, getD2, getD3, getD4, getD5, getD6, getD7, getD8, getD9, getD10, getD11, getD12, getD13, getD14, getD15, getD16, getD17, getD18, getD19, Bool.not_true, Bool.not_false, Bool.false_eq_true, Bool.true_eq_false, ↓reduceIte, decide_true, decide_false, Option.isNone_some, Option.isNone_none, Option.isSome_some, Option.isSome_none, beq_self_eq_true, bne_self_eq_false, Bool.and_true, Bool.true_and, Bool.and_false, Bool.false_and, not_true_eq_false, not_false_eq_true]
  | some a =>
    obtain ⟨q', w', e, o, f, hb, _⟩ := app_empty t28 h (by intro y hy; obtain ⟨z, _, rfl⟩ := List.mem_map.mp hy; rfl) (by omega) (by omega) 28 #[false, false]
    refine ⟨q', w', g36_call (u0 := (some a, q.2.1, q.2.2)) ?_, o, f, hb⟩
    rw [hq1] at e
    unfold g36
    simp only [e, obs, asP_pointer, asB_bool, asI_int, asS_string, asSl_slice, asM_map, asTup0, asTup1, asTup2, asTup3, asTup4, asTup5, asTup6, asTup7, asTup8, asTup9, asAgg2, asAgg3, asAgg4, asAgg5, asAgg6, asAgg7, asAgg8, asAgg9, asAgg12, getD0, getD1, getD2, getD3, getD4, getD5, getD6, getD7, getD8, getD9, getD10, getD11, getD12, getD13, getD14, getD15, getD16, getD17, getD18, getD19, Bool.not_true, Bool.not_false, Bool.false_eq_true, Bool.true_eq_false, ↓reduceIte, decide_true, decide_false, Option.isNone_some, Option.isNone_none, Option.isSome_some, Option.isSome_none, beq_self_eq_true, bne_self_eq_false, Bool.and_true, Bool.true_and, Bool.and_false, Bool.false_and, not_true_eq_false, not_false_eq_true]
end Go.Proofs.Ytjcenfgmpbeldaa

namespace Go.Proofs.Ytjcenfgmpbeldaa
open Go Go.Ev
set_option maxRecDepth 100000
set_option linter.unusedVariables false
set_option linter.unusedSimpArgs false

abbrev intsV' (l : List Int) : List Value := l.map (Value.int .i64)

/-- a node -/
structure NV where
  al : Bool
  cm : Int
  bk : Int
def NV.cs (n : NV) : List Value := [.bool n.al, .int .i64 n.cm, .int .u64 n.bk]
def ndCs (l : List NV) : List Value := (l.map NV.cs).flatten

/-- a partition -/
structure PV where
  ld : Int
  ep : Int
  vr : Int
  isr : List Int
  rep : List Int
  tgt : List Int
abbrev Sh := Option Addr × Nat × Nat
/-- a partition in memory -/
structure PE where
  v : PV
  qi : Sh
  qr : Sh
  qt : Sh
def PV.cs (v : PV) (qi qr qt : Sh) : List Value := [.int .i64 v.ld, .int .i64 v.ep, .int .i64 v.vr, .slice qi.1 qi.2.1 qi.2.2, .slice qr.1 qr.2.1 qr.2.2, .slice qt.1 qt.2.1 qt.2.2]
def PE.cs (e : PE) : List Value := e.v.cs e.qi e.qr e.qt
def ptCs (l : List PE) : List Value := (l.map PE.cs).flatten

theorem ndCs_len (l : List NV) : (ndCs l).length = 3 * l.length := by
  induction l with
  | nil => rfl
  | cons s l ih => simp only [ndCs, List.map_cons, List.flatten_cons, List.length_append, List.length_cons] at ih ⊢; rw [ih]; simp [NV.cs]; omega
theorem ptCs_len (l : List PE) : (ptCs l).length = 6 * l.length := by
  induction l with
  | nil => rfl
  | cons s l ih => simp only [ptCs, List.map_cons, List.flatten_cons, List.length_append, List.length_cons] at ih ⊢; rw [ih]; simp [PE.cs, PV.cs]; omega

/-- rows of one length, one behind the other -/
theorem flat_get {α : Type} {f : α → List Value} {n : Nat} (hf : ∀ x, (f x).length = n) (l : List α) (k j : Nat) (hk : k < l.length) (hj : j < n) : (l.map f).flatten[n * k + j]? = (f l[k])[j]? := by
  induction l generalizing k with
  | nil => simp at hk
  | cons s l ih =>
    rw [List.map_cons, List.flatten_cons]
    cases k with
    | zero => rw [List.getElem?_append_left (by rw [hf]; omega)]; simp
    | succ k =>
      rw [List.getElem?_append_right (by rw [hf, Nat.mul_succ]; omega), hf]
      have := ih k (by simpa using hk)
      simp only [List.getElem_cons_succ]
      rw [← this]
      congr 1
      rw [Nat.mul_succ]; omega
theorem flat_set {α : Type} {f : α → List Value} {n : Nat} (hf : ∀ x, (f x).length = n) (l : List α) (k j : Nat) (hk : k < l.length) (hj : j < n) (x : α) (v : Value) (hx : f x = (f l[k]).set j v) : ((l.map f).flatten).set (n * k + j) v = ((l.set k x).map f).flatten := by
  induction l generalizing k with
  | nil => simp at hk
  | cons s l ih =>
    cases k with
    | zero =>
      simp only [List.map_cons, List.flatten_cons, List.set_cons_zero, Nat.mul_zero, Nat.zero_add]
      simp only [List.getElem_cons_zero] at hx
      rw [List.set_append_left _ _ (by rw [hf]; omega), hx]
    | succ k =>
      simp only [List.map_cons, List.flatten_cons, List.set_cons_succ]
      simp only [List.getElem_cons_succ] at hx
      rw [List.set_append_right _ _ (by rw [hf, Nat.mul_succ]; omega), hf]
      have := ih k (by simpa using hk) hx
      rw [← this]
      congr 2
      rw [Nat.mul_succ]; omega

/-- an element of a slice of rows -/
theorem row_at {α : Type} {f : α → List Value} {n : Nat} (hf : ∀ x, (f x).length = n) (hn : 0 < n) {w : World} {e : TypeId} {q : Sh} {l : List α} (h : Own w e n q ((l.map f).flatten)) (hl : ((l.map f).flatten).length = n * l.length) {k : Nat} (hk : k < l.length) :
    ∃ g off, q.1 = some ⟨g, off, none⟩ ∧ idxA q.1 q.2.1 n (k : Int) = some ⟨g, off + k * n, none⟩ ∧ (∀ j, j < n → w.cell? ⟨g, off + k * n + j, none⟩ = (f l[k])[j]?) ∧
      (∀ j, j < n → ∀ (x : α) (v : Value), v.oneCell' = true → f x = (f l[k]).set j v → ∃ w', st1 w ⟨g, off + k * n + j, none⟩ v = some w' ∧ Own w' e n q (((l.set k x).map f).flatten) ∧ Fr (blkOf q) w w') := by
  have h1 := h.len
  rw [hl] at h1
  have hq : q.2.1 = l.length := by
    have : n * l.length = n * q.2.1 := by rw [h1, Nat.mul_comm]
    exact (Nat.eq_of_mul_eq_mul_left hn this).symm
  obtain ⟨g, off, q1, i1⟩ := h.idx (i := k) (by omega)
  have hlt : ∀ j, j < n → n * k + j < ((l.map f).flatten).length := by
    intro j hj
    rw [hl]
    have : n * (k + 1) ≤ n * l.length := Nat.mul_le_mul_left n hk
    rw [Nat.mul_succ] at this
    omega
  refine ⟨g, off, q1, i1, fun j hj => ?_, fun j hj x v hv hx => ?_⟩
  · have hg := h.get q1 (n * k + j) (hlt j hj)
    have : off + k * n + j = off + (n * k + j) := by rw [Nat.mul_comm k n]; omega
    rw [this, hg, ← flat_get hf l k j hk hj]
    exact (List.getElem?_eq_getElem (hlt j hj)).symm
  · obtain ⟨s1, o1, f1⟩ := h.set q1 (k := n * k + j) (hlt j hj) (u := v) hv
    have e1 : off + k * n + j = off + (n * k + j) := by rw [Nat.mul_comm k n]; omega
    rw [flat_set hf l k j hk hj x v hx] at o1
    exact ⟨_, by rw [e1]; exact s1, o1, f1⟩

structure PeOk (w : World) (D : Nat → Prop) (e : PE) : Prop where
  oi : Own w 3 1 e.qi (intsV' e.v.isr)
  or_ : Own w 3 1 e.qr (intsV' e.v.rep)
  ot : Own w 3 1 e.qt (intsV' e.v.tgt)
  reg : (∀ y ∈ blkOf e.qi, D y) ∧ (∀ y ∈ blkOf e.qr, D y) ∧ ∀ y ∈ blkOf e.qt, D y
  len : e.v.isr.length ≤ 1000000000 ∧ e.v.rep.length ≤ 1000000000 ∧ e.v.tgt.length ≤ 1000000000

theorem PeOk.fr {w w' : World} {D D' : Nat → Prop} {e : PE} {S : List Nat} (h : PeOk w D e) (hf : Fr S w w') (hS : ∀ y ∈ S, y ∉ blkOf e.qi ∧ y ∉ blkOf e.qr ∧ y ∉ blkOf e.qt) (hD : ∀ y, D y → D' y) : PeOk w' D' e :=
  ⟨h.oi.fr hf (fun y hy hm => (hS y hm).1 hy), h.or_.fr hf (fun y hy hm => (hS y hm).2.1 hy), h.ot.fr hf (fun y hy hm => (hS y hm).2.2 hy), ⟨fun y hy => hD y (h.reg.1 y hy), fun y hy => hD y (h.reg.2.1 y hy), fun y hy => hD y (h.reg.2.2 y hy)⟩, h.len⟩

/-- an image in memory -/
structure Raw (w : World) (D : Nat → Prop) (b c : Nat) (nq pq : Sh) (ns : List NV) (es : List PE) (next count : Int) : Prop where
  tbl : Blk w b [.slice nq.1 nq.2.1 nq.2.2, .slice pq.1 pq.2.1 pq.2.2, .pointer (some ⟨c, 0, none⟩), .int .i64 count] 79
  nd : Own w 85 3 nq (ndCs ns)
  pt : Own w 30 6 pq (ptCs es)
  ct : Ctr w c next 1001
  ok : ∀ e ∈ es, PeOk w D e
  rb : D b
  rc : D c
  rn : ∀ y ∈ blkOf nq, D y
  rp : ∀ y ∈ blkOf pq, D y
  lt : ∀ y, D y → y < w.heap.size

theorem Raw.nlen {w : World} {D : Nat → Prop} {b c : Nat} {nq pq : Sh} {ns : List NV} {es : List PE} {next count : Int} (h : Raw w D b c nq pq ns es next count) : nq.2.1 = ns.length := by
  have := h.nd.len; rw [ndCs_len] at this; omega
theorem Raw.plen {w : World} {D : Nat → Prop} {b c : Nat} {nq pq : Sh} {ns : List NV} {es : List PE} {next count : Int} (h : Raw w D b c nq pq ns es next count) : pq.2.1 = es.length := by
  have := h.pt.len; rw [ptCs_len] at this; omega

theorem Raw.fr {w w' : World} {D : Nat → Prop} {b c : Nat} {nq pq : Sh} {ns : List NV} {es : List PE} {next count : Int} {S : List Nat} (h : Raw w D b c nq pq ns es next count) (hf : Fr S w w') (hS : ∀ y ∈ S, y < w.heap.size → ¬ D y) : Raw w' D b c nq pq ns es next count := by
  have hf' := fr_old hf
  have hS' : ∀ y ∈ S.filter (· < w.heap.size), ¬ D y := by intro y hy; simp at hy; exact hS y hy.1 hy.2
  refine ⟨h.tbl.fr hf' (fun hm => hS' _ hm h.rb), h.nd.fr hf' (fun y hy hm => hS' y hm (h.rn y hy)), h.pt.fr hf' (fun y hy hm => hS' y hm (h.rp y hy)), h.ct.fr hf' (fun hm => hS' _ hm h.rc), fun e he => (h.ok e he).fr hf' (fun y hy => ⟨fun hm => hS' y hy ((h.ok e he).reg.1 y hm), fun hm => hS' y hy ((h.ok e he).reg.2.1 y hm), fun hm => hS' y hy ((h.ok e he).reg.2.2 y hm)⟩) (fun _ => id), h.rb, h.rc, h.rn, h.rp, fun y hy => ?_⟩
  have := h.lt y hy; have := hf.size; omega
end Go.Proofs.Ytjcenfgmpbeldaa

namespace Go.Proofs.Ytjcenfgmpbeldaa
open Go Go.Ev
set_option maxRecDepth 100000
set_option linter.unusedVariables false
set_option linter.unusedSimpArgs false

theorem ndf_len (n : NV) : n.cs.length = 3 := rfl
theorem pef_len (e : PE) : e.cs.length = 6 := rfl

section
variable {w : World} {D : Nat → Prop} {b c : Nat} {nq pq : Sh} {ns : List NV} {es : List PE} {next count : Int}

theorem Ctr.ne_blk {b c : Nat} {cs : List Value} {T : TypeId} {x l : Int} (h : Ctr w c x l) (hb : Blk w b cs T) (hT : T ≠ 118) : c ≠ b := by
  intro e
  subst e
  unfold Ctr at h
  unfold Blk at hb
  rw [hb] at h
  injection h with h
  injection h with _ h
  exact hT h
theorem Ctr.notin {c : Nat} {x l : Int} {e : TypeId} {n : Nat} {v : Sh} {xs : List Value} (h : Ctr w c x l) (o : Own w e n v xs) (he : e ≠ 118) : c ∉ blkOf v := by
  intro hm
  rcases o.at_ with ⟨h1, _⟩ | ⟨g, off, cur, h1, h2, _⟩
  · simp [blkOf, h1] at hm
  · simp [blkOf, h1] at hm
    subst hm
    unfold Ctr at h
    rw [h2] at h
    injection h with h
    injection h with _ h
    exact he h

theorem Raw.node_at (h : Raw w D b c nq pq ns es next count) {k : Nat} (hk : k < ns.length) :
    ∃ a, idxA nq.1 nq.2.1 3 (k : Int) = some a ∧ w.cell? a = some (.bool ns[k].al) ∧ w.cell? (Addr.add a 1) = some (.int .i64 ns[k].cm) ∧ w.cell? (Addr.add a 2) = some (.int .u64 ns[k].bk) := by
  obtain ⟨g, off, q1, i1, r1, _⟩ := row_at (f := NV.cs) ndf_len (by decide) h.nd (ndCs_len ns) hk
  exact ⟨_, i1, r1 0 (by decide), by have := r1 1 (by decide); rw [addr_add]; exact this, by have := r1 2 (by decide); rw [addr_add]; exact this⟩

/-- what the other lists are apart from -/
theorem Raw.apN (h : Raw w D b c nq pq ns es next count) : b ∉ blkOf nq ∧ c ∉ blkOf nq ∧ (∀ y ∈ blkOf nq, y ∉ blkOf pq) ∧ ∀ e ∈ es, ∀ y ∈ blkOf nq, y ∉ blkOf e.qi ∧ y ∉ blkOf e.qr ∧ y ∉ blkOf e.qt :=
  ⟨h.tbl.notin h.nd (by decide), h.ct.notin h.nd (by decide), h.nd.apart h.pt (by decide), fun e he y hy => ⟨h.nd.apart (h.ok e he).oi (by decide) y hy, h.nd.apart (h.ok e he).or_ (by decide) y hy, h.nd.apart (h.ok e he).ot (by decide) y hy⟩⟩
theorem Raw.apP (h : Raw w D b c nq pq ns es next count) : b ∉ blkOf pq ∧ c ∉ blkOf pq ∧ (∀ y ∈ blkOf pq, y ∉ blkOf nq) ∧ ∀ e : PE, ∀ {D' : Nat → Prop}, PeOk w D' e → ∀ y ∈ blkOf pq, y ∉ blkOf e.qi ∧ y ∉ blkOf e.qr ∧ y ∉ blkOf e.qt :=
  ⟨h.tbl.notin h.pt (by decide), h.ct.notin h.pt (by decide), h.pt.apart h.nd (by decide), fun e _ he y hy => ⟨h.pt.apart he.oi (by decide) y hy, h.pt.apart he.or_ (by decide) y hy, h.pt.apart he.ot (by decide) y hy⟩⟩

theorem Raw.setN (h : Raw w D b c nq pq ns es next count) {k : Nat} (hk : k < ns.length) {j : Nat} (hj : j < 3) (n' : NV) (v : Value) (hv : v.oneCell' = true) (hn : n'.cs = ns[k].cs.set j v) :
    ∃ a w', idxA nq.1 nq.2.1 3 (k : Int) = some a ∧ st1 w (Addr.add a j) v = some w' ∧ Raw w' D b c nq pq (ns.set k n') es next count ∧ Fr (blkOf nq) w w' := by
  obtain ⟨g, off, q1, i1, _, r2⟩ := row_at (f := NV.cs) ndf_len (by decide) h.nd (ndCs_len ns) hk
  obtain ⟨w', s1, o1, f1⟩ := r2 j hj n' v hv hn
  obtain ⟨a1, a2, a3, a4⟩ := h.apN
  refine ⟨_, w', i1, by rw [addr_add]; exact s1, ⟨h.tbl.fr f1 a1, o1, h.pt.fr f1 (fun y hy hm => a3 y hm hy), h.ct.fr f1 a2, fun e he => (h.ok e he).fr f1 (a4 e he) (fun _ => id), h.rb, h.rc, h.rn, h.rp, fun y hy => by have := h.lt y hy; have := f1.size; omega⟩, f1⟩

theorem Raw.setP (h : Raw w D b c nq pq ns es next count) {k : Nat} (hk : k < es.length) {j : Nat} (hj : j < 6) {D' : Nat → Prop} (e' : PE) (v : Value) (hv : v.oneCell' = true) (he : e'.cs = es[k].cs.set j v) (hD : ∀ y, D y → D' y) (ok' : PeOk w D' e') (lt' : ∀ y, D' y → y < w.heap.size) :
    ∃ a w', idxA pq.1 pq.2.1 6 (k : Int) = some a ∧ st1 w (Addr.add a j) v = some w' ∧ Raw w' D' b c nq pq ns (es.set k e') next count ∧ Fr (blkOf pq) w w' := by
  obtain ⟨g, off, q1, i1, _, r2⟩ := row_at (f := PE.cs) pef_len (by decide) h.pt (ptCs_len es) hk
  obtain ⟨w', s1, o1, f1⟩ := r2 j hj e' v hv he
  obtain ⟨a1, a2, a3, a4⟩ := h.apP
  refine ⟨_, w', i1, by rw [addr_add]; exact s1, ⟨h.tbl.fr f1 a1, h.nd.fr f1 (fun y hy hm => a3 y hm hy), o1, h.ct.fr f1 a2, fun e hm => ?_, hD _ h.rb, hD _ h.rc, fun y hy => hD _ (h.rn y hy), fun y hy => hD _ (h.rp y hy), fun y hy => by have := lt' y hy; have := f1.size; omega⟩, f1⟩
  rcases List.mem_or_eq_of_mem_set hm with hm | rfl
  · exact (h.ok e hm).fr f1 (a4 e (h.ok e hm)) hD
  · exact ok'.fr f1 (a4 _ ok') (fun _ => id)

theorem Raw.setC (h : Raw w D b c nq pq ns es next count) (n : Int) : ∃ w', st1 w ⟨b, 3, none⟩ (.int .i64 n) = some w' ∧ Raw w' D b c nq pq ns es next n ∧ Fr [b] w w' := by
  have s1 := h.tbl.st1 (i := 3) (v := .int .i64 n) (by simp) rfl
  have t1 : Blk (w.setCell ⟨b, 3, none⟩ (.int .i64 n)) b [.slice nq.1 nq.2.1 nq.2.2, .slice pq.1 pq.2.1 pq.2.2, .pointer (some ⟨c, 0, none⟩), .int .i64 n] 79 := h.tbl.set 3 (.int .i64 n)
  have f1 : Fr [b] w (w.setCell ⟨b, 3, none⟩ (.int .i64 n)) := Fr.setCell
  refine ⟨_, s1, ⟨t1, h.nd.fr f1 (fun y hy hm => by simp at hm; subst hm; exact h.tbl.notin h.nd (by decide) hy), h.pt.fr f1 (fun y hy hm => by simp at hm; subst hm; exact h.tbl.notin h.pt (by decide) hy), h.ct.fr f1 (by simp; exact h.ct.ne_blk h.tbl (by decide)), fun e he => (h.ok e he).fr f1 (fun y hy => by
    simp at hy; subst hy
    exact ⟨h.tbl.notin (h.ok e he).oi (by decide), h.tbl.notin (h.ok e he).or_ (by decide), h.tbl.notin (h.ok e he).ot (by decide)⟩) (fun _ => id), h.rb, h.rc, h.rn, h.rp, fun y hy => by have := h.lt y hy; have := f1.size; omega⟩, f1⟩
end
end Go.Proofs.Ytjcenfgmpbeldaa

namespace Go.Proofs.Ytjcenfgmpbeldaa
open Go Go.Ev
set_option maxRecDepth 100000
set_option linter.unusedVariables false
set_option linter.unusedSimpArgs false

def isort (l : List Int) : List Int := l.mergeSort
theorem isort_of {l l' : List Int} (h : l'.Perm l) (hs : l'.Pairwise (· ≤ ·)) : l' = isort l := by
  have h1 : (isort l).Pairwise (· ≤ ·) := by
    have := List.pairwise_mergeSort (le := fun a b : Int => decide (a ≤ b)) (by intro a b c; simp; omega) (by intro a b; simp; omega) l
    unfold isort
    exact this.imp (by intro a b; simp)
  exact List.Perm.eq_of_pairwise (by intro a b _ _ h1 h2; omega) hs h1 (h.trans (List.mergeSort_perm l _).symm)
theorem isort_perm (l : List Int) : (isort l).Perm l := List.mergeSort_perm l _
theorem isort_up (l : List Int) : (isort l).Pairwise (· ≤ ·) := by
  have := List.pairwise_mergeSort (le := fun a b : Int => decide (a ≤ b)) (by intro a b c; simp; omega) (by intro a b; simp; omega) l
  unfold isort
  exact this.imp (by intro a b; simp)

section
variable {w : World} {D : Nat → Prop} {b c : Nat} {nq pq : Sh} {ns : List NV} {es : List PE} {next count : Int}

theorem node16 (h : Raw w D b c nq pq ns es next count) (n : Int) :
    ∃ w', callF Try.prog 16 #[.pointer (some ⟨b, 0, none⟩), .int .i64 n] w = some ((if h : 0 ≤ n ∧ n.toNat < ns.length then .tuple #[.bool (ns[n.toNat]'h.2).al, .int .i64 (ns[n.toNat]'h.2).cm, .int .u64 (ns[n.toNat]'h.2).bk] else .tuple #[.bool false, .int .i64 0, .int .u64 0]), w') ∧ Fr [] w w' := by
  have c0 : w.cell? ⟨b, 0, none⟩ = some (.slice nq.1 nq.2.1 nq.2.2) := h.tbl.cell 0
  have hl := h.nlen
  by_cases hn : n < 0
  · refine ⟨w, g16_call ?_, Fr.refl _ _⟩
    rw [dif_neg (by omega)]
    have k1 : decide (n < 0) = true := by simp [hn]
    unfold g16
    simp only [k1, obs, asP_pointer, asB_bool, asI_int, asS_string, asSl_slice, asM_map, asTup0, asTup1, asTup2, asTup3, asTup4, asTup5, asTup6, asTup7, asTup8, asTup9, asAgg2, asAgg3, asAgg4, asAgg5, asAgg6, asAgg7, asAgg8, asAgg9, asAgg12, getD0, getD1, getD2, getD3, getD4, getD5, getD6, getD7, getD8, getD9, getD10, getD11, getD12, getD13, getD14, getD15, getD16, getD17, getD18, getD19, Bool.not_true, Bool.not_false, Bool.false_eq_true, Bool.true_eq_false, ↓reduceIte, decide_true, decide_false, Option.isNone_some, Option.isNone_none, Option.isSome_some, Option.isSome_none, beq_self_eq_true, bne_self_eq_false, Bool.and_true, Bool.true_and, Bool.and_false, Bool.false_and, not_true_eq_false, not_false_eq_true]
  · have k1 : decide (n < 0) = false := by simp; omega
    by_cases hn2 : n.toNat < ns.length
    · have k2 : decide (n ≥ (nq.2.1 : Int)) = false := by simp; omega
      have hd := h.fr (Fr.drew [] w) (by simp)
      obtain ⟨a, i1, r0, r1, r2⟩ := hd.node_at hn2
      have hnn : ((n.toNat : Nat) : Int) = n := by omega
      rw [hnn] at i1
      have c0' : w.drew.cell? ⟨b, 0, none⟩ = some (.slice nq.1 nq.2.1 nq.2.2) := hd.tbl.cell 0
      refine ⟨w.drew, g16_call ?_, Fr.drew _ _⟩
      rw [dif_pos ⟨by omega, hn2⟩]
      unfold g16
      simp only [k1, c0, k2, c0', i1, r0, r1, r2, obs, asP_pointer, asB_bool, asI_int, asS_string, asSl_slice, asM_map, asTup0, asTup1, asTup2, asTup3, asTup4, asTup5, asTup6, asTup7, asTup8, asTup9, asAgg2, asAgg3, asAgg4, asAgg5, asAgg6, asAgg7, asAgg8, asAgg9, asAgg12, getD0, getD1, getD2, getD3, getD4, getD5, getD6, getD7, getD8, getD9, getD10, getD11, getD12, getD13, getD14, getD15, getD16, getD17, getD18, getD19, Bool.not_true, Bool.not_false, Bool.false_eq_true, Bool.true_eq_false, ↓reduceIte, decide_true, decide_false, Option.isNone_some, Option.isNone_none, Option.isSome_some, Option.isSome_none, beq_self_eq_true, bne_self_eq_false, Bool.and_true, Bool.true_and, Bool.and_false, Bool.false_and, not_true_eq_false, not_false_eq_true]
    · have k2 : decide (n ≥ (nq.2.1 : Int)) = true := by simp; omega
      refine ⟨w, g16_call ?_, Fr.refl _ _⟩
      rw [dif_neg (by omega)]
      unfold g16
      simp only [k1, c0, k2, obs, asP_pointer, asB_bool, asI_int, asS_string, asSl_slice, asM_map, asTup0, asTup1, asTup2, asTup3, asTup4, asTup5, asTup6, asTup7, asTup8, asTup9, asAgg2, asAgg3, asAgg4, asAgg5, asAgg6, asAgg7, asAgg8, asAgg9, asAgg12, getD0, getD1, getD2, getD3, getD4, getD5, getD6, getD7, getD8, getD9, getD10, getD11, getD12, getD13, getD14, getD15, getD16, getD17, getD18, getD19, Bool.not_true, Bool.not_false, Bool.false_eq_true, Bool.true_eq_false, ↓reduceIte, decide_true, decide_false, Option.isNone_some, Option.isNone_none, Option.isSome_some, Option.isSome_none, beq_self_eq_true, bne_self_eq_false, Bool.and_true, Bool.true_and, Bool.and_false, Bool.false_and, not_true_eq_false, not_false_eq_true]

theorem pids20 (h : Raw w D b c nq pq ns es next count) (h0 : 0 ≤ next ∧ next ≤ 1001) :
    ∃ w', callF Try.prog 20 #[.pointer (some ⟨b, 0, none⟩)] w = some (.tuple #[.int .u64 next, .int .u64 (1001 - next)], w') ∧ Fr [] w w' := by
  have c2 : w.cell? ⟨b, 2, none⟩ = some (.pointer (some ⟨c, 0, none⟩)) := h.tbl.cell 2
  have e := left42 h.ct h0.1 h0.2 (by decide)
  refine ⟨w.drew, g20_call ?_, Fr.drew _ _⟩
  unfold g20
  simp only [addr_add, Nat.zero_add, c2, e, obs, asP_pointer, asB_bool, asI_int, asS_string, asSl_slice, asM_map, asTup0, asTup1, asTup2, asTup3, asTup4, asTup5, asTup6, asTup7, asTup8, asTup9, asAgg2, asAgg3, asAgg4, asAgg5, asAgg6, asAgg7, asAgg8, asAgg9, asAgg12, getD0, getD1, getD2, getD3, getD4, getD5, getD6, getD7, getD8, getD9, getD10, getD11, getD12, getD13, getD14, getD15, getD16, getD17, getD18, getD19, Bool.not_true, Bool.not_false, Bool.false_eq_true, Bool.true_eq_false, ↓reduceIte, decide_true, decide_false, Option.isNone_some, Option.isNone_none, Option.isSome_some, Option.isSome_none, beq_self_eq_true, bne_self_eq_false, Bool.and_true, Bool.true_and, Bool.and_false, Bool.false_and, not_true_eq_false, not_false_eq_true]

theorem counts23 (h : Raw w D b c nq pq ns es next count) :
    ∃ w', callF Try.prog 23 #[.pointer (some ⟨b, 0, none⟩)] w = some (.tuple #[.int .i64 (ns.length : Int), .int .i64 (es.length : Int), .int .i64 count], w') ∧ Fr [] w w' := by
  have hd := h.fr (Fr.drew [] w) (by simp)
  have c0 : w.drew.cell? ⟨b, 0, none⟩ = some (.slice nq.1 nq.2.1 nq.2.2) := hd.tbl.cell 0
  have c1 : w.drew.cell? ⟨b, 1, none⟩ = some (.slice pq.1 pq.2.1 pq.2.2) := hd.tbl.cell 1
  have c3 : w.drew.cell? ⟨b, 3, none⟩ = some (.int .i64 count) := hd.tbl.cell 3
  have h1 := h.nlen
  have h2 := h.plen
  refine ⟨w.drew, g23_call ?_, Fr.drew _ _⟩
  unfold g23
  simp only [addr_add, Nat.zero_add, c0, c1, c3, h1, h2, obs, asP_pointer, asB_bool, asI_int, asS_string, asSl_slice, asM_map, asTup0, asTup1, asTup2, asTup3, asTup4, asTup5, asTup6, asTup7, asTup8, asTup9, asAgg2, asAgg3, asAgg4, asAgg5, asAgg6, asAgg7, asAgg8, asAgg9, asAgg12, getD0, getD1, getD2, getD3, getD4, getD5, getD6, getD7, getD8, getD9, getD10, getD11, getD12, getD13, getD14, getD15, getD16, getD17, getD18, getD19, Bool.not_true, Bool.not_false, Bool.false_eq_true, Bool.true_eq_false, ↓reduceIte, decide_true, decide_false, Option.isNone_some, Option.isNone_none, Option.isSome_some, Option.isSome_none, beq_self_eq_true, bne_self_eq_false, Bool.and_true, Bool.true_and, Bool.and_false, Bool.false_and, not_true_eq_false, not_false_eq_true]

/-- what grant answers -/
theorem grant41 (h : Raw w D b c nq pq ns es next count) (h0 : 0 ≤ next ∧ next ≤ 1001) {k : Nat} (hk : k < ns.length) :
    ∃ w', callF Try.prog 41 #[.pointer (some ⟨b, 0, none⟩), .int .i64 (k : Int)] w = some (.int .i64 (if 1001 - next < 10 then 17 else 0), w') ∧
      Raw w' D b c nq pq (if 1001 - next < 10 then ns else ns.set k { ns[k] with bk := next }) es (if 1001 - next < 10 then next else next + 10) count ∧ (∃ S, Fr S w w' ∧ ∀ y ∈ S, D y) := by
  have c2 : w.cell? ⟨b, 2, none⟩ = some (.pointer (some ⟨c, 0, none⟩)) := h.tbl.cell 2
  obtain ⟨w1, e1, t1, f1⟩ := block77 (n := 10) h.ct h0.1 h0.2 (by decide) (by decide) (by decide)
  have hcb := h.ct.ne_blk h.tbl (by decide)
  have b1 := h.tbl.fr f1 (by simp; exact fun e => hcb e.symm)
  have R1 : Raw w1 D b c nq pq ns es (blockOf next 1001 10).2.2 count := by
    refine ⟨b1, h.nd.fr f1 (fun y hy hm => by simp at hm; subst hm; exact h.ct.notin h.nd (by decide) hy), h.pt.fr f1 (fun y hy hm => by simp at hm; subst hm; exact h.ct.notin h.pt (by decide) hy), t1, fun e he => (h.ok e he).fr f1 (fun y hy => by
      simp at hy; subst hy
      exact ⟨h.ct.notin (h.ok e he).oi (by decide), h.ct.notin (h.ok e he).or_ (by decide), h.ct.notin (h.ok e he).ot (by decide)⟩) (fun _ => id), h.rb, h.rc, h.rn, h.rp, fun y hy => by have := h.lt y hy; have := f1.size; omega⟩
  by_cases hs : 1001 - next < 10
  · have hb : blockOf next 1001 10 = (0, false, next) := by unfold blockOf; rw [if_pos (by omega)]
    rw [hb] at e1 R1
    rw [if_pos hs, if_pos hs, if_pos hs]
    refine ⟨w1, g41_call ?_, R1, ⟨[c], f1, by intro y hy; simp at hy; subst hy; exact h.rc⟩⟩
    unfold g41
    simp only [addr_add, Nat.zero_add, c2, e1, obs, asP_pointer, asB_bool, asI_int, asS_string, asSl_slice, asM_map, asTup0, asTup1, asTup2, asTup3, asTup4, asTup5, asTup6, asTup7, asTup8, asTup9, asAgg2, asAgg3, asAgg4, asAgg5, asAgg6, asAgg7, asAgg8, asAgg9, asAgg12, getD0, getD1, getD2, getD3, getD4, getD5, getD6, getD7, getD8, getD9, getD10, getD11, getD12, getD13, getD14, getD15, getD16, getD17, getD18, getD19, Bool.not_true, Bool.not_false, Bool.false_eq_true, Bool.true_eq_false, ↓reduceIte, decide_true, decide_false, Option.isNone_some, Option.isNone_none, Option.isSome_some, Option.isSome_none, beq_self_eq_true, bne_self_eq_false, Bool.and_true, Bool.true_and, Bool.and_false, Bool.false_and, not_true_eq_false, not_false_eq_true]
  · have hb : blockOf next 1001 10 = (next, true, next + 10) := by unfold blockOf; rw [if_neg (by omega)]
    rw [hb] at e1 R1
    rw [if_neg hs, if_neg hs, if_neg hs]
    have c0 : w1.cell? ⟨b, 0, none⟩ = some (.slice nq.1 nq.2.1 nq.2.2) := R1.tbl.cell 0
    obtain ⟨a, w2, i2, s2, R2, f2⟩ := R1.setN hk (j := 2) (by decide) { ns[k] with bk := next } (.int .u64 next) rfl rfl
    refine ⟨w2, g41_call ?_, R2, ⟨c :: blkOf nq, (f1.app f2).mono (by intro y hy _; simpa using hy), by intro y hy; simp at hy; rcases hy with rfl | hy; exact h.rc; exact h.rn y hy⟩⟩
    unfold g41
    simp only [addr_add, Nat.zero_add, c2, e1, c0, i2, s2, obs, asP_pointer, asB_bool, asI_int, asS_string, asSl_slice, asM_map, asTup0, asTup1, asTup2, asTup3, asTup4, asTup5, asTup6, asTup7, asTup8, asTup9, asAgg2, asAgg3, asAgg4, asAgg5, asAgg6, asAgg7, asAgg8, asAgg9, asAgg12, getD0, getD1, getD2, getD3, getD4, getD5, getD6, getD7, getD8, getD9, getD10, getD11, getD12, getD13, getD14, getD15, getD16, getD17, getD18, getD19, Bool.not_true, Bool.not_false, Bool.false_eq_true, Bool.true_eq_false, ↓reduceIte, decide_true, decide_false, Option.isNone_some, Option.isNone_none, Option.isSome_some, Option.isSome_none, beq_self_eq_true, bne_self_eq_false, Bool.and_true, Bool.true_and, Bool.and_false, Bool.false_and, not_true_eq_false, not_false_eq_true]
end
end Go.Proofs.Ytjcenfgmpbeldaa

namespace Go.Proofs.Ytjcenfgmpbeldaa
open Go Go.Ev
set_option maxRecDepth 100000
set_option linter.unusedVariables false
set_option linter.unusedSimpArgs false

theorem own_lt' {w : World} {e : TypeId} {n : Nat} {v : Sh} {xs : List Value} (h : Own w e n v xs) : ∀ y ∈ blkOf v, y < w.heap.size := by
  intro y hy
  rcases h.at_ with ⟨h1, _⟩ | ⟨g, off, cur, h1, h2, _⟩
  · simp [blkOf, h1] at hy
  · simp [blkOf, h1] at hy
    subst hy
    exact lt_of_blk h2

/-- the nodes of a new partition, as they are counted -/
def onR (n c k : Nat) : List Int := (List.range c).map fun i => (((k + i) % n : Nat) : Int)
def newPart (n c k : Nat) : PV := ⟨-1, 0, 0, isort (onR n c k), isort (onR n c k), []⟩

theorem t77 : TSl Try.prog 77 30 6 96 := tsl_of Try.underlying77 (by kernel_rfl)

theorem new_in {x w11 : World} {n c k : Nat} (u1 : Int) (hn : 1 ≤ n ∧ n ≤ 5) (hc : c ≤ 5) (hk : k < 100) :
    ∃ q x', loopS (g11_l18_b (c : Int) (n : Int) (k : Int) w11 u1) ((none, 0, 0), 0) x = some (.exit 2, (q, (c : Int)), x') ∧ Own x' 3 1 q (intsV' (onR n c k)) ∧ Fr [] x x' ∧ ∀ y ∈ blkOf q, x.heap.size ≤ y := by
  have hml : maxLen = 9223372036854775807 := by decide
  obtain ⟨t, x', g1, q, rfl, o, f, hq⟩ := loopS_countX 2 (b := g11_l18_b (c : Int) (n : Int) (k : Int) w11 u1) (I := fun i s y => ∃ q : Sh, s = (q, (i : Int)) ∧ Own y 3 1 q (intsV' (onR n i k)) ∧ Fr [] x y ∧ ∀ z ∈ blkOf q, x.heap.size ≤ z) (n := c)
    (fun i s y hi ⟨q, hs, ho, hf, hq⟩ => by
      subst hs
      have hol := ho.len
      simp only [intsV', onR, List.length_map, List.length_range] at hol
      have hw := wrap_succ (n := i) (by omega)
      have hki : IntKind.i64.wrap ((k : Int) + (i : Int)) = ((k + i : Nat) : Int) := by rw [wrap_i64 (by omega) (by omega)]; omega
      have htm : Int.tmod ((k + i : Nat) : Int) (n : Int) = (((k + i) % n : Nat) : Int) := by rw [Int.tmod_eq_emod_of_nonneg (by omega)]; simp
      have k0 : decide ((i : Int) < (c : Int)) = true := by simp; omega
      have k1 : ¬ ((n : Int) = 0) := by omega
      obtain ⟨q2, y2, e2, o2, f2, n2, m2⟩ := app_one t28 ho (ys := [.int .i64 (((k + i) % n : Nat) : Int)]) rfl (by intro y hy; simp at hy; subst hy; rfl) (by omega) (by omega) 28 #[false, false]
      refine ⟨(q2, ((i + 1 : Nat) : Int)), y2, ?_, q2, rfl, ?_, (hf.app f2).mono (by intro z hz hl; simp at hz; have := hq z hz; omega), fun z hz => ?_⟩
      · unfold g11_l18_b
        simp only [k0, if_true]
        rw [if_neg k1, hki, htm]
        simp only [e2, hw, obs, asP_pointer, asB_bool, asI_int, asS_string, asSl_slice, asM_map, asTup0, asTup1, asTup2, asTup3, asTup4, asTup5, asTup6, asTup7, asTup8, asTup9, asAgg2, asAgg3, asAgg4, asAgg5, asAgg6, asAgg7, asAgg8, asAgg9, asAgg12, getD0, getD1, getD2, getD3, getD4, getD5, getD6, getD7, getD8, getD9, getD10, getD11, getD12, getD13, getD14, getD15, getD16, getD17, getD18, getD19, Bool.not_true, Bool.not_false, Bool.false_eq_true, Bool.true_eq_false, ↓reduceIte, decide_true, decide_false, Option.isNone_some, Option.isNone_none, Option.isSome_some, Option.isSome_none, beq_self_eq_true, bne_self_eq_false, Bool.and_true, Bool.true_and, Bool.and_false, Bool.false_and, not_true_eq_false, not_false_eq_true]
      · have e : intsV' (onR n (i + 1) k) = intsV' (onR n i k) ++ [.int .i64 (((k + i) % n : Nat) : Int)] := by simp [intsV', onR, List.range_succ]
        rw [e]; exact o2
      · have := hf.size
        rcases n2 z hz with hh | hh
        · exact hq z hh
        · omega)
    (fun i y ⟨q, hs, _⟩ => by
      subst hs
      unfold g11_l18_b
      simp) (k := 0) (s := ((none, 0, 0), 0)) (w := x) (Nat.zero_le _) ⟨(none, 0, 0), rfl, Own.nil _ _ _, Fr.refl _ _, by simp [blkOf]⟩
  exact ⟨q, x', g1, o, f, hq⟩

theorem new_x2 {W x w11 : World} {D : Nat → Prop} {c : Nat} {nq pq q : Sh} {ns : List NV} {es : List PE} {n cp k : Nat} {next count : Int} (u1 t2 : Int) (hR : Raw x D w11.heap.size c nq pq ns es next count) (hn : 1 ≤ n ∧ n ≤ 5) (hc : cp ≤ 5) (hk : k < 100) (hel : es.length ≤ 100) (ho : Own x 3 1 q (intsV' (onR n cp k))) (hq : ∀ y ∈ blkOf q, ¬ D y ∧ W.heap.size ≤ y) (hW : Fr [] W x) (hD : ∀ y, D y → W.heap.size ≤ y) :
    ∃ D' pq' e x', g11_l18_x2 w11 (n : Int) (cp : Int) (k : Int) u1 (q, t2) x = some (.normal, ((k + 1 : Nat) : Int), x') ∧ Raw x' D' w11.heap.size c nq pq' ns (es ++ [e]) next count ∧ e.v = newPart n cp k ∧ Fr [] W x' ∧ (∀ y, D' y → W.heap.size ≤ y) := by
  have hml : maxLen = 9223372036854775807 := by decide
  have hw := wrap_succ (n := k) (by omega)
  have hol : (onR n cp k).length = cp := by simp [onR]
  obtain ⟨l', x1, e1, o1, f1, pm, ps⟩ := sort33s (w := x) (q := q) (l := onR n cp k) ho (by omega)
  have hl' := isort_of pm ps
  subst hl'
  have hil : (isort (onR n cp k)).length = cp := by rw [(isort_perm _).length_eq, hol]
  have R1 := hR.fr f1 (fun y hy _ => (hq y hy).1)
  have fd := Fr.drew [] x1
  have R2 := R1.fr fd (by simp)
  have o2 := o1.fr fd (by simp)
  obtain ⟨qc, x3, e3, o3, f3, n3⟩ := clone36 (w := x1.drew) (q := q) o2.slC (fun hh => (o2.empty hh).2.1) (by omega)
  have R3 := R2.fr f3 (by simp)
  have oq3 := o2.fr f3 (by simp)
  have lt2 := R2.lt
  obtain ⟨pe, hpe⟩ : ∃ pe : PE, pe = ⟨newPart n cp k, qc, q, (none, 0, 0)⟩ := ⟨_, rfl⟩
  have hcs : pe.cs = [.int .i64 (-1), .int .i64 0, .int .i64 0, .slice qc.1 qc.2.1 qc.2.2, .slice q.1 q.2.1 q.2.2, .slice none 0 0] := by rw [hpe]; rfl
  have hpl := R3.plen
  obtain ⟨pq', x4, e4, o4, f4, n4, m4⟩ := app_one t77 R3.pt (ys := pe.cs) (by rw [hcs]; rfl) (by rw [hcs]; intro y hy; simp at hy; rcases hy with rfl | rfl | rfl | rfl | rfl | rfl <;> rfl) (by omega) (by omega) 77 #[false, false]
  rw [hcs] at e4
  obtain ⟨a1, a2, a3, a4⟩ := R3.apP
  have tb4 := R3.tbl.fr f4 a1
  have s5 := tb4.st1 (i := 1) (v := .slice pq'.1 pq'.2.1 pq'.2.2) (by simp) rfl
  have tb5 : Blk (x4.setCell ⟨w11.heap.size, 1, none⟩ (.slice pq'.1 pq'.2.1 pq'.2.2)) w11.heap.size [.slice nq.1 nq.2.1 nq.2.2, .slice pq'.1 pq'.2.1 pq'.2.2, .pointer (some ⟨c, 0, none⟩), .int .i64 count] 79 := tb4.set 1 (.slice pq'.1 pq'.2.1 pq'.2.2)
  have f5 : Fr [w11.heap.size] x4 (x4.setCell ⟨w11.heap.size, 1, none⟩ (.slice pq'.1 pq'.2.1 pq'.2.2)) := Fr.setCell
  obtain ⟨x5, hx5⟩ : ∃ x5, x4.setCell ⟨w11.heap.size, 1, none⟩ (.slice pq'.1 pq'.2.1 pq'.2.2) = x5 := ⟨_, rfl⟩
  rw [hx5] at s5 tb5 f5
  have z1 := f1.size
  have z3 := f3.size
  have z4 := f4.size
  have z5 := f5.size
  have zW := hW.size
  have hdz : x1.drew.heap.size = x1.heap.size := rfl
  have ecat : ptCs es ++ pe.cs = ptCs (es ++ [pe]) := by simp [ptCs]
  rw [ecat] at o4
  have F45 : Fr (blkOf pq ++ [w11.heap.size]) x3 x5 := f4.app f5
  have lq := own_lt' oq3
  have lqc := own_lt' o3
  have lpq := own_lt' o4
  have ok5 : ∀ e ∈ es ++ [pe], PeOk x5 (fun y => D y ∨ y ∈ blkOf q ∨ y ∈ blkOf qc ∨ y ∈ blkOf pq') e := by
    have base : ∀ e ∈ es ++ [pe], PeOk x3 (fun y => D y ∨ y ∈ blkOf q ∨ y ∈ blkOf qc ∨ y ∈ blkOf pq') e := by
      intro e he
      rcases List.mem_append.mp he with he | he
      · exact (R3.ok e he).fr (Fr.refl [] x3) (by simp) (fun y hy => .inl hy)
      · simp only [List.mem_singleton] at he
        subst he
        rw [hpe]
        exact ⟨o3, oq3, Own.nil _ _ _, ⟨fun y hy => .inr (.inr (.inl hy)), fun y hy => .inr (.inl hy), by simp [blkOf]⟩, ⟨by show (isort (onR n cp k)).length ≤ _; omega, by show (isort (onR n cp k)).length ≤ _; omega, by simp [newPart]⟩⟩
    intro e he
    have hb := base e he
    refine hb.fr F45 (fun y hy => ?_) (fun _ => id)
    rcases List.mem_append.mp hy with hy | hy
    · exact a4 e hb y hy
    · simp only [List.mem_singleton] at hy
      subst hy
      exact ⟨R3.tbl.notin hb.oi (by decide), R3.tbl.notin hb.or_ (by decide), R3.tbl.notin hb.ot (by decide)⟩
  have hcb : c ≠ w11.heap.size := R3.ct.ne_blk R3.tbl (by decide)
  have R5 : Raw x5 (fun y => D y ∨ y ∈ blkOf q ∨ y ∈ blkOf qc ∨ y ∈ blkOf pq') w11.heap.size c nq pq' ns (es ++ [pe]) next count := by
    refine ⟨tb5, R3.nd.fr F45 (fun y hy hm => ?_), o4.fr f5 (fun y hy hm => ?_), R3.ct.fr F45 (fun hm => ?_), ok5, .inl R3.rb, .inl R3.rc, fun y hy => .inl (R3.rn y hy), fun y hy => .inr (.inr (.inr hy)), fun y hy => ?_⟩
    · rcases List.mem_append.mp hm with hm | hm
      · exact a3 y hm hy
      · simp only [List.mem_singleton] at hm; subst hm; exact R3.tbl.notin R3.nd (by decide) hy
    · simp only [List.mem_singleton] at hm; subst hm; exact tb4.notin o4 (by decide) hy
    · rcases List.mem_append.mp hm with hm | hm
      · exact a2 hm
      · simp only [List.mem_singleton] at hm; exact hcb hm
    · rcases hy with hy | hy | hy | hy
      · have := R3.lt y hy; omega
      · have := lq y hy; omega
      · have := lqc y hy; omega
      · have := lpq y hy; omega
  have rp3 := R3.rp
  have rb3 := R3.rb
  have FW : Fr [] W x5 := ((((hW.app f1).app fd).app f3).app F45).mono (by
    intro y hy hl
    simp only [List.nil_append, List.append_nil, List.mem_append, List.mem_singleton] at hy
    rcases hy with hy | hy | hy
    · have := (hq y hy).2; omega
    · have := hD y (rp3 y hy); omega
    · have := hD _ rb3; omega)
  refine ⟨_, pq', pe, x5, ?_, R5, by rw [hpe], FW, fun y hy => ?_⟩
  · have p2 : x1.drew.cell? ⟨w11.heap.size, 1, none⟩ = some (.slice pq.1 pq.2.1 pq.2.2) := R2.tbl.cell 1
    have p3 : x3.cell? ⟨w11.heap.size, 1, none⟩ = some (.slice pq.1 pq.2.1 pq.2.2) := R3.tbl.cell 1
    have fa : Fr [] x3 (x3.alloc (.cells #[.int .i64 (-1), .int .i64 0, .int .i64 0, .slice qc.1 qc.2.1 qc.2.2, .slice q.1 q.2.1 q.2.2, .slice none 0 0] 30)) := Fr.alloc _
    have p4 : (x3.alloc (.cells #[.int .i64 (-1), .int .i64 0, .int .i64 0, .slice qc.1 qc.2.1 qc.2.2, .slice q.1 q.2.1 q.2.2, .slice none 0 0] 30)).cell? ⟨w11.heap.size, 1, none⟩ = some (.slice pq.1 pq.2.1 pq.2.2) := (R3.tbl.fr fa (by simp)).cell 1
    have e4' : callB Try.prog .append #[77, 77] 77 #[false, false] #[.slice pq.1 pq.2.1 pq.2.2, .slice (some ⟨x3.heap.size, 0, none⟩) 1 1] (x3.alloc (.cells #[.int .i64 (-1), .int .i64 0, .int .i64 0, .slice qc.1 qc.2.1 qc.2.2, .slice q.1 q.2.1 q.2.2, .slice none 0 0] 30)) = some (.slice pq'.1 pq'.2.1 pq'.2.2, x4) := e4
    unfold g11_l18_x2
    simp only [e1, g11_j45, g11_j52, addr_add, Nat.zero_add, p2, e3, p3, p4, e4', s5, hw, ite_self, obs, asP_pointer, asB_bool, asI_int, asS_string, asSl_slice, asM_map, asTup0, asTup1, asTup2, asTup3, asTup4, asTup5, asTup6, asTup7, asTup8, asTup9, asAgg2, asAgg3, asAgg4, asAgg5, asAgg6, asAgg7, asAgg8, asAgg9, asAgg12, getD0, getD1, getD2, getD3, getD4, getD5, getD6, getD7, getD8, getD9, getD10, getD11, getD12, getD13, getD14, getD15, getD16, getD17, getD18, getD19, Bool.not_true, Bool.not_false, Bool.false_eq_true, Bool.true_eq_false, ↓reduceIte, decide_true, decide_false, Option.isNone_some, Option.isNone_none, Option.isSome_some, Option.isSome_none, beq_self_eq_true, bne_self_eq_false, Bool.and_true, Bool.true_and, Bool.and_false, Bool.false_and, not_true_eq_false, not_false_eq_true]
  · rcases hy with hy | hy | hy | hy
    · exact hD y hy
    · exact (hq y hy).2
    · have := n3 y hy; omega
    · rcases n4 y hy with hh | hh
      · exact hD y (rp3 y hh)
      · omega
end Go.Proofs.Ytjcenfgmpbeldaa

namespace Go.Proofs.Ytjcenfgmpbeldaa
open Go Go.Ev
set_option maxRecDepth 100000
set_option linter.unusedVariables false
set_option linter.unusedSimpArgs false

def nv0 : NV := ⟨false, 0, 0⟩
theorem zrow3_1 : zrow (.agg #[.bool false, .int .i64 0, .int .u64 0]) (1 * 3) = (ndCs (List.replicate 1 nv0)).toArray := by kernel_rfl
theorem zrow3_2 : zrow (.agg #[.bool false, .int .i64 0, .int .u64 0]) (2 * 3) = (ndCs (List.replicate 2 nv0)).toArray := by kernel_rfl
theorem zrow3_3 : zrow (.agg #[.bool false, .int .i64 0, .int .u64 0]) (3 * 3) = (ndCs (List.replicate 3 nv0)).toArray := by kernel_rfl
theorem zrow3_4 : zrow (.agg #[.bool false, .int .i64 0, .int .u64 0]) (4 * 3) = (ndCs (List.replicate 4 nv0)).toArray := by kernel_rfl
theorem zrow3_5 : zrow (.agg #[.bool false, .int .i64 0, .int .u64 0]) (5 * 3) = (ndCs (List.replicate 5 nv0)).toArray := by kernel_rfl
theorem zrow3 {n : Nat} (h : 1 ≤ n ∧ n ≤ 5) : zrow (.agg #[.bool false, .int .i64 0, .int .u64 0]) (n * 3) = (ndCs (List.replicate n nv0)).toArray := by
  obtain ⟨h1, h2⟩ := h
  have : n = 1 ∨ n = 2 ∨ n = 3 ∨ n = 4 ∨ n = 5 := by omega
  rcases this with rfl | rfl | rfl | rfl | rfl
  · exact zrow3_1
  · exact zrow3_2
  · exact zrow3_3
  · exact zrow3_4
  · exact zrow3_5

theorem make3 (w : World) {n : Nat} (h : 1 ≤ n ∧ n ≤ 5) : Own (w.alloc (.cells (zrow (.agg #[.bool false, .int .i64 0, .int .u64 0]) (n * 3)) 85)) 85 3 (some ⟨w.heap.size, 0, none⟩, n, n) (ndCs (List.replicate n nv0)) := by
  have hml : maxLen = 9223372036854775807 := by decide
  have hl := ndCs_len (List.replicate n nv0)
  rw [List.length_replicate] at hl
  refine ⟨by rw [hl, Nat.mul_comm], Nat.le_refl _, by show n ≤ maxLen; omega, .inr ⟨w.heap.size, 0, zrow (.agg #[.bool false, .int .i64 0, .int .u64 0]) (n * 3), rfl, alloc_blk_new _, ?_, ?_⟩⟩
  · rw [zrow3 h]; simp [hl]; omega
  · rw [zrow3 h]
    simp only [List.drop_zero]
    rw [List.take_of_length_le]
    rw [hl]
    show 3 * n ≤ n * 3
    omega

def newParts (n c p : Nat) : List PV := (List.range p).map (newPart n c)

/-- the image at its beginning -/
theorem new11 (W : World) {n p c : Nat} (hn : 1 ≤ n ∧ n ≤ 5) (hp : 1 ≤ p ∧ p ≤ 6) (hc : 1 ≤ c ∧ c ≤ n) :
    ∃ w' D b ct nq pq es, callF Try.prog 11 #[.int .i64 (n : Int), .int .i64 (p : Int), .int .i64 (c : Int)] W = some (.tuple #[.pointer (some ⟨b, 0, none⟩), .int .i64 0], w') ∧ Raw w' D b ct nq pq (List.replicate n nv0) es 1 0 ∧ es.map (·.v) = newParts n c p ∧ Fr [] W w' ∧ ∀ y, D y → W.heap.size ≤ y := by
  -- the loop over the partitions, from a world in which nodes and counter are
  have main : ∀ (x : World) (ct : Nat) (nq : Sh), Own x 85 3 nq (ndCs (List.replicate n nv0)) → Ctr x ct 1 1001 → Fr [] W x → W.heap.size ≤ ct → (∀ y ∈ blkOf nq, W.heap.size ≤ y) →
      ∃ w' D pq es, g11_j8 (n : Int) (p : Int) (c : Int) W nq (some ⟨ct, 0, none⟩) x = some (.tuple #[.pointer (some ⟨x.heap.size, 0, none⟩), .int .i64 0], w') ∧ Raw w' D x.heap.size ct nq pq (List.replicate n nv0) es 1 0 ∧ es.map (·.v) = newParts n c p ∧ Fr [] W w' ∧ ∀ y, D y → W.heap.size ≤ y := by
    intro x ct nq on ctr hW hct hnq
    have fa : Fr [] x (x.alloc (.cells #[.slice nq.1 nq.2.1 nq.2.2, .slice none 0 0, .pointer (some ⟨ct, 0, none⟩), .int .i64 0] 79)) := Fr.alloc _
    have ba : Blk (x.alloc (.cells #[.slice nq.1 nq.2.1 nq.2.2, .slice none 0 0, .pointer (some ⟨ct, 0, none⟩), .int .i64 0] 79)) x.heap.size [.slice nq.1 nq.2.1 nq.2.2, .slice none 0 0, .pointer (some ⟨ct, 0, none⟩), .int .i64 0] 79 := Blk.new x [.slice nq.1 nq.2.1 nq.2.2, .slice none 0 0, .pointer (some ⟨ct, 0, none⟩), .int .i64 0] 79
    obtain ⟨x1, hx1⟩ : ∃ x1, x.alloc (.cells #[.slice nq.1 nq.2.1 nq.2.2, .slice none 0 0, .pointer (some ⟨ct, 0, none⟩), .int .i64 0] 79) = x1 := ⟨_, rfl⟩
    rw [hx1] at fa ba
    have zW := hW.size
    have za := fa.size
    have on1 := on.fr fa (by simp)
    have ct1 := ctr.fr fa (by simp)
    have R1 : Raw x1 (fun y => y = x.heap.size ∨ y = ct ∨ y ∈ blkOf nq) x.heap.size ct nq (none, 0, 0) (List.replicate n nv0) [] 1 0 :=
      ⟨ba, on1, Own.nil _ _ _, ct1, by simp, .inl rfl, .inr (.inl rfl), fun y hy => .inr (.inr hy), by simp [blkOf], fun y hy => by
        rcases hy with rfl | rfl | hy
        · exact ba.lt
        · exact lt_of_blk ct1
        · exact own_lt' on1 y hy⟩
    obtain ⟨t, w', g1, rfl, D, pq, es, R, hes, hF, hD⟩ := loopS_countX 0 (b := g11_l15_b (p : Int) (n : Int) (c : Int) x) (I := fun k s y => s = (k : Int) ∧ ∃ (D : Nat → Prop) (pq : Sh) (es : List PE), Raw y D x.heap.size ct nq pq (List.replicate n nv0) es 1 0 ∧ es.map (·.v) = (List.range k).map (newPart n c) ∧ Fr [] W y ∧ ∀ z, D z → W.heap.size ≤ z) (n := p)
      (fun k s y hk ⟨hs, D, pq, es, R, hes, hF, hD⟩ => by
        subst hs
        have hel : es.length = k := by have := congrArg List.length hes; simpa using this
        obtain ⟨q, y1, g2, oq, fq, nq'⟩ := new_in (x := y) (w11 := x) (c := c) (k := k) (p : Int) hn (by omega) (by omega)
        have lt := R.lt
        have zF := hF.size
        obtain ⟨D', pq', e, y2, g3, R3, he, hF3, hD3⟩ := new_x2 (W := W) (p : Int) (c : Int) (R.fr fq (by simp)) hn (cp := c) (k := k) (by omega) (by omega) (by omega) oq (fun z hz => ⟨fun hd => by have := lt z hd; have := nq' z hz; omega, by have := nq' z hz; omega⟩) (Fr.mono (Fr.app hF fq) (by have z0_ := Fr.size hF; have z1_ := Fr.size fq; intro y_ hy_ hl_; grind [blkOf])) hD
        refine ⟨_, y2, ?_, rfl, D', pq', es ++ [e], R3, ?_, hF3, hD3⟩
        · unfold g11_l15_b
          have k0 : decide ((k : Int) < (p : Int)) = true := by simp; omega
          simp only [k0, if_true]
          rw [g11_l18_x2_of g2, g3]
        · rw [List.map_append, hes, List.range_succ, List.map_append]
          simp [he])
      (fun s y ⟨hs, _⟩ => by
        subst hs
        unfold g11_l15_b
        simp) (k := 0) (s := 0) (w := x1) (Nat.zero_le _) ⟨rfl, _, _, [], R1, rfl, (Fr.mono (Fr.app hW fa) (by have z0_ := Fr.size hW; have z1_ := Fr.size fa; intro y_ hy_ hl_; grind [blkOf])), fun z hz => by
          rcases hz with rfl | rfl | hz
          · exact zW
          · exact hct
          · exact hnq z hz⟩
    refine ⟨w', D, pq, es, ?_, R, hes, hF, hD⟩
    unfold g11_j8
    rw [hx1, g11_l15_x0_of g1, g11_l15_x0]
  have k1 : decide ((n : Int) < 1) = false := by simp; omega
  have k2 : decide ((n : Int) > 5) = false := by simp; omega
  have k3 : decide ((p : Int) < 1) = false := by simp; omega
  have k4 : decide ((p : Int) > 6) = false := by simp; omega
  have k5 : decide ((c : Int) < 1) = false := by simp; omega
  have k6 : decide ((c : Int) > (n : Int)) = false := by simp; omega
  have cond : (0 : Int) ≤ (n : Int) ∧ (n : Int) ≤ (n : Int) ∧ (n : Int) < 9223372036854775808 ∧ ((24 : Nat) : Int) * (n : Int) ≤ 2 ^ 48 ∧ (0 : Nat) < 3 := ⟨by omega, Int.le_refl _, by omega, by omega, by decide⟩
  have htn : Int.toNat (n : Int) = n := by simp
  have fd := Fr.drew [] W
  by_cases hL : (ahd (Region.schedule true (opsOf (cAt [1, 1, 0] (bodyOf Try.f11))) (World.tape W (World.drawn W) (.order 11 3))) 1 2) = true
  · -- nodes first
    have o1 := make3 W.drew hn
    have fm : Fr [] W.drew (W.drew.alloc (.cells (zrow (.agg #[.bool false, .int .i64 0, .int .u64 0]) (n * 3)) 85)) := Fr.alloc _
    obtain ⟨x1, hx1⟩ : ∃ x1, W.drew.alloc (.cells (zrow (.agg #[.bool false, .int .i64 0, .int .u64 0]) (n * 3)) 85) = x1 := ⟨_, rfl⟩
    rw [hx1] at o1 fm
    obtain ⟨x2, e2, c2, f2⟩ := new34 (w := x1) 1 1001
    rw [if_neg (by decide)] at c2
    have z1 := fm.size
    have zz : W.drew.heap.size = W.heap.size := rfl
    obtain ⟨w', D, pq, es, e, R, h1, h2, h3⟩ := main x2 x1.heap.size (some ⟨W.drew.heap.size, 0, none⟩, n, n) (o1.fr f2 (by simp)) c2 (Fr.mono (Fr.app (Fr.app fd fm) f2) (by have z0_ := Fr.size fd; have z1_ := Fr.size fm; have z2_ := Fr.size f2; intro y_ hy_ hl_; grind [blkOf])) (by omega) (by intro y hy; simp [blkOf] at hy; omega)
    refine ⟨w', D, x2.heap.size, x1.heap.size, (some ⟨W.drew.heap.size, 0, none⟩, n, n), pq, es, g11_call ?_, R, h1, h2, h3⟩
    unfold g11
    simp only [k1, k2, k3, k4, k5, k6, obs, asP_pointer, asB_bool, asI_int, asS_string, asSl_slice, asM_map, asTup0, asTup1, asTup2, asTup3, asTup4, asTup5, asTup6, asTup7, asTup8, asTup9, asAgg2, asAgg3, asAgg4, asAgg5, asAgg6, asAgg7, asAgg8, asAgg9, asAgg12, getD0, getD1, getD2, getD3, getD4, getD5, getD6, getD7, getD8, getD9, getD10, getD11, getD12, getD13, getD14, getD15, getD16, getD17, getD18, getD19, Bool.not_true, Bool.not_false, Bool.false_eq_true, Bool.true_eq_false, ↓reduceIte, decide_true, decide_false, Option.isNone_some, Option.isNone_none, Option.isSome_some, Option.isSome_none, beq_self_eq_true, bne_self_eq_false, Bool.and_true, Bool.true_and, Bool.and_false, Bool.false_and, not_true_eq_false, not_false_eq_true]
    rw [if_pos hL, if_pos cond, htn, hx1]
    simp only [e2, obs, asP_pointer, asB_bool, asI_int, asS_string, asSl_slice, asM_map, asTup0, asTup1, asTup2, asTup3, asTup4, asTup5, asTup6, asTup7, asTup8, asTup9, asAgg2, asAgg3, asAgg4, asAgg5, asAgg6, asAgg7, asAgg8, asAgg9, asAgg12, getD0, getD1, getD2, getD3, getD4, getD5, getD6, getD7, getD8, getD9, getD10, getD11, getD12, getD13, getD14, getD15, getD16, getD17, getD18, getD19, Bool.not_true, Bool.not_false, Bool.false_eq_true, Bool.true_eq_false, ↓reduceIte, decide_true, decide_false, Option.isNone_some, Option.isNone_none, Option.isSome_some, Option.isSome_none, beq_self_eq_true, bne_self_eq_false, Bool.and_true, Bool.true_and, Bool.and_false, Bool.false_and, not_true_eq_false, not_false_eq_true]
    exact e
  · obtain ⟨x1, e1, c1, f1⟩ := new34 (w := W.drew) 1 1001
    rw [if_neg (by decide)] at c1
    have o2 := make3 x1 hn
    have fm : Fr [] x1 (x1.alloc (.cells (zrow (.agg #[.bool false, .int .i64 0, .int .u64 0]) (n * 3)) 85)) := Fr.alloc _
    obtain ⟨x2, hx2⟩ : ∃ x2, x1.alloc (.cells (zrow (.agg #[.bool false, .int .i64 0, .int .u64 0]) (n * 3)) 85) = x2 := ⟨_, rfl⟩
    rw [hx2] at o2 fm
    have z1 := f1.size
    have zz : W.drew.heap.size = W.heap.size := rfl
    obtain ⟨w', D, pq, es, e, R, h1, h2, h3⟩ := main x2 W.drew.heap.size (some ⟨x1.heap.size, 0, none⟩, n, n) o2 (c1.fr fm (by simp)) (Fr.mono (Fr.app (Fr.app fd f1) fm) (by have z0_ := Fr.size fd; have z1_ := Fr.size f1; have z2_ := Fr.size fm; intro y_ hy_ hl_; grind [blkOf])) (by omega) (by intro y hy; simp [blkOf] at hy; omega)
    refine ⟨w', D, x2.heap.size, W.drew.heap.size, (some ⟨x1.heap.size, 0, none⟩, n, n), pq, es, g11_call ?_, R, h1, h2, h3⟩
    unfold g11
    simp only [k1, k2, k3, k4, k5, k6, obs, asP_pointer, asB_bool, asI_int, asS_string, asSl_slice, asM_map, asTup0, asTup1, asTup2, asTup3, asTup4, asTup5, asTup6, asTup7, asTup8, asTup9, asAgg2, asAgg3, asAgg4, asAgg5, asAgg6, asAgg7, asAgg8, asAgg9, asAgg12, getD0, getD1, getD2, getD3, getD4, getD5, getD6, getD7, getD8, getD9, getD10, getD11, getD12, getD13, getD14, getD15, getD16, getD17, getD18, getD19, Bool.not_true, Bool.not_false, Bool.false_eq_true, Bool.true_eq_false, ↓reduceIte, decide_true, decide_false, Option.isNone_some, Option.isNone_none, Option.isSome_some, Option.isSome_none, beq_self_eq_true, bne_self_eq_false, Bool.and_true, Bool.true_and, Bool.and_false, Bool.false_and, not_true_eq_false, not_false_eq_true]
    rw [if_neg hL]
    simp only [e1, obs, asP_pointer, asB_bool, asI_int, asS_string, asSl_slice, asM_map, asTup0, asTup1, asTup2, asTup3, asTup4, asTup5, asTup6, asTup7, asTup8, asTup9, asAgg2, asAgg3, asAgg4, asAgg5, asAgg6, asAgg7, asAgg8, asAgg9, asAgg12, getD0, getD1, getD2, getD3, getD4, getD5, getD6, getD7, getD8, getD9, getD10, getD11, getD12, getD13, getD14, getD15, getD16, getD17, getD18, getD19, Bool.not_true, Bool.not_false, Bool.false_eq_true, Bool.true_eq_false, ↓reduceIte, decide_true, decide_false, Option.isNone_some, Option.isNone_none, Option.isSome_some, Option.isSome_none, beq_self_eq_true, bne_self_eq_false, Bool.and_true, Bool.true_and, Bool.and_false, Bool.false_and, not_true_eq_false, not_false_eq_true]
    rw [if_pos cond, htn, hx2]
    exact e
end Go.Proofs.Ytjcenfgmpbeldaa

namespace Go.Proofs.Ytjcenfgmpbeldaa
open Go Go.Ev
set_option maxRecDepth 100000
set_option linter.unusedVariables false
set_option linter.unusedSimpArgs false

def aliveB (ns : List NV) (n : Int) : Bool := match ns[n.toNat]? with | some x => x.al | none => false
/-- a partition whose leader is chosen anew -/
def electV (ns : List NV) (v : PV) : PV := { v with ld := (v.isr.find? (aliveB ns)).getD (-1), ep := IntKind.i64.wrap (v.ep + 1) }
/-- names only such nodes as there are -/
def Names (ns : List NV) (l : List Int) : Prop := ∀ n ∈ l, 0 ≤ n ∧ n < ns.length

section
variable {w : World} {D : Nat → Prop} {b c : Nat} {nq pq : Sh} {ns : List NV} {es : List PE} {next count : Int}

theorem Raw.part_addr (h : Raw w D b c nq pq ns es next count) {k : Nat} (hk : k < es.length) : ∃ g o, idxA pq.1 pq.2.1 6 (k : Int) = some ⟨g, o, none⟩ ∧ g ∈ blkOf pq := by
  obtain ⟨g, off, q1, i1, _⟩ := row_at (f := PE.cs) pef_len (by decide) h.pt (ptCs_len es) hk
  exact ⟨g, _, i1, by simp [blkOf, q1]⟩
theorem Raw.part_cell (h : Raw w D b c nq pq ns es next count) {k : Nat} (hk : k < es.length) {g o : Nat} (ha : idxA pq.1 pq.2.1 6 (k : Int) = some ⟨g, o, none⟩) {j : Nat} (hj : j < 6) : w.cell? ⟨g, o + j, none⟩ = (es[k].cs)[j]? := by
  obtain ⟨g', off, q1, i1, r1, _⟩ := row_at (f := PE.cs) pef_len (by decide) h.pt (ptCs_len es) hk
  rw [i1] at ha
  cases ha
  exact r1 j hj
theorem Raw.part_put (h : Raw w D b c nq pq ns es next count) {k : Nat} (hk : k < es.length) {g o : Nat} (ha : idxA pq.1 pq.2.1 6 (k : Int) = some ⟨g, o, none⟩) {j : Nat} (hj : j < 6) {D' : Nat → Prop} (e' : PE) (v : Value) (hv : v.oneCell' = true) (he : e'.cs = es[k].cs.set j v) (hD : ∀ y, D y → D' y) (ok' : PeOk w D' e') (lt' : ∀ y, D' y → y < w.heap.size) :
    ∃ w', st1 w ⟨g, o + j, none⟩ v = some w' ∧ Raw w' D' b c nq pq ns (es.set k e') next count ∧ Fr (blkOf pq) w w' := by
  obtain ⟨a, w', i1, s1, R, f⟩ := h.setP hk hj e' v hv he hD ok' lt'
  rw [i1] at ha
  cases ha
  rw [addr_add] at s1
  exact ⟨w', s1, R, f⟩

theorem elect71 (h : Raw w D b c nq pq ns es next count) {k : Nat} (hk : k < es.length) {g o : Nat} (ha : idxA pq.1 pq.2.1 6 (k : Int) = some ⟨g, o, none⟩) (hn : Names ns es[k].v.isr) :
    ∃ w', callF Try.prog 71 #[.pointer (some ⟨b, 0, none⟩), .pointer (some ⟨g, o, none⟩)] w = some (.tuple #[], w') ∧ Raw w' D b c nq pq ns (es.set k { es[k] with v := electV ns es[k].v }) next count ∧ Fr (blkOf pq) w w' := by
  have hok := h.ok es[k] (List.getElem_mem hk)
  obtain ⟨pe, hpe⟩ : ∃ pe, es[k] = pe := ⟨_, rfl⟩
  obtain ⟨w1, s1, R1, f1⟩ := h.part_put hk ha (j := 0) (by decide) { es[k] with v := { es[k].v with ld := -1 } } (.int .i64 (-1)) rfl rfl (fun _ => id) ⟨hok.oi, hok.or_, hok.ot, hok.reg, hok.len⟩ h.lt
  rw [hpe] at hok hn R1 ⊢
  have hk1 : k < (es.set k { pe with v := { pe.v with ld := -1 } }).length := by simpa using hk
  have hget : (es.set k { pe with v := { pe.v with ld := -1 } })[k] = { pe with v := { pe.v with ld := -1 } } := by simp
  have c3 := R1.part_cell hk1 ha (j := 3) (by decide)
  rw [hget] at c3
  have c3' : w1.cell? ⟨g, o + 3, none⟩ = some (.slice pe.qi.1 pe.qi.2.1 pe.qi.2.2) := c3
  have hok1 := R1.ok _ (List.getElem_mem hk1)
  rw [hget] at hok1
  have oi := hok1.oi
  have hlen := oi.len
  simp only [intsV', List.length_map] at hlen
  have hlen : pe.v.isr.length = pe.qi.2.1 * 1 := hlen
  have hl1 : pe.v.isr.length ≤ 1000000000 := hok1.len.1
  -- the loop
  obtain ⟨e, t, w2, g1, rfl, R2, f2⟩ := loopS_rule (b := g71_l7_b pe.qi (some ⟨b, 0, none⟩) (some ⟨g, o, none⟩)) (I := fun j s x => s = (j : Int) ∧ x = w1 ∧ ∀ n ∈ pe.v.isr.take j, aliveB ns n = false)
    (Q := fun e s x => e = .exit 0 ∧ Raw x D b c nq pq ns (es.set k { pe with v := { pe.v with ld := (pe.v.isr.find? (aliveB ns)).getD (-1) } }) next count ∧ Fr (blkOf pq) w1 x) (n := pe.v.isr.length)
    (fun j s x hj ⟨hs, hx, hno⟩ => by
      subst hs hx
      obtain ⟨a, i1, ci⟩ := oi.slC.get (i := j) (by simpa using hj)
      have ci' : x.cell? a = some (.int .i64 pe.v.isr[j]) := by rw [ci]; simp
      have hnj := hn pe.v.isr[j] (List.getElem_mem hj)
      have hnl : pe.v.isr[j].toNat < ns.length := by omega
      obtain ⟨a2, i2, r0, _, _⟩ := R1.node_at hnl
      have hnn : ((pe.v.isr[j].toNat : Nat) : Int) = pe.v.isr[j] := by omega
      rw [hnn] at i2
      have hal : aliveB ns pe.v.isr[j] = ns[pe.v.isr[j].toNat].al := by unfold aliveB; rw [List.getElem?_eq_getElem hnl]
      have c0 : x.cell? ⟨b, 0, none⟩ = some (.slice nq.1 nq.2.1 nq.2.2) := R1.tbl.cell 0
      have k0 : decide ((j : Int) < (pe.qi.2.1 : Int)) = true := by simp; omega
      have hw := wrap_succ (n := j) (by omega)
      cases hb : ns[pe.v.isr[j].toNat].al with
      | true =>
        rw [hb] at r0 hal
        obtain ⟨w2, s2, R2, f2⟩ := R1.part_put hk1 ha (j := 0) (by decide) { pe with v := { pe.v with ld := pe.v.isr[j] } } (.int .i64 pe.v.isr[j]) rfl (by rw [hget]; rfl) (fun _ => id) ⟨hok1.oi, hok1.or_, hok1.ot, hok1.reg, hok1.len⟩ R1.lt
        rw [List.set_set] at R2
        have hfind : pe.v.isr.find? (aliveB ns) = some pe.v.isr[j] := by
          have hsp : pe.v.isr = pe.v.isr.take j ++ pe.v.isr[j] :: pe.v.isr.drop (j + 1) := by
            rw [← List.drop_eq_getElem_cons hj, List.take_append_drop]
          conv => lhs; rw [hsp]
          rw [List.find?_append, List.find?_cons_of_pos hal]
          have : (pe.v.isr.take j).find? (aliveB ns) = none := by rw [List.find?_eq_none]; intro n hn'; simp [hno n hn']
          rw [this]; rfl
        refine ⟨.exit 0, (j : Int), w2, ?_, .inr ⟨by simp, rfl, by rw [hfind]; exact R2, f2⟩⟩
        have s2' : st1 x ⟨g, o, none⟩ (.int .i64 pe.v.isr[j]) = some w2 := s2
        unfold g71_l7_b
        simp only [k0, i1, ci', c0, i2, r0, s2', obs, asP_pointer, asB_bool, asI_int, asS_string, asSl_slice, asM_map, asTup0, asTup1, asTup2, asTup3, asTup4, asTup5, asTup6, asTup7, asTup8, asTup9, asAgg2, asAgg3, asAgg4, asAgg5, asAgg6, asAgg7, asAgg8, asAgg9, asAgg12, getD0, getD1, getD2, getD3, getD4, getD5, getD6, getD7, getD8, getD9, getD10, getD11, getD12, getD13, getD14, getD15, getD16, getD17, getD18, getD19, Bool.not_true, Bool.not_false, Bool.false_eq_true, Bool.true_eq_false, ↓reduceIte, decide_true, decide_false, Option.isNone_some, Option.isNone_none, Option.isSome_some, Option.isSome_none, beq_self_eq_true, bne_self_eq_false, Bool.and_true, Bool.true_and, Bool.and_false, Bool.false_and, not_true_eq_false, not_false_eq_true]
      | false =>
        rw [hb] at r0 hal
        refine ⟨.normal, ((j + 1 : Nat) : Int), x, ?_, .inl ⟨rfl, rfl, rfl, fun n hn' => ?_⟩⟩
        · unfold g71_l7_b
          simp only [k0, i1, ci', c0, i2, r0, hw, obs, asP_pointer, asB_bool, asI_int, asS_string, asSl_slice, asM_map, asTup0, asTup1, asTup2, asTup3, asTup4, asTup5, asTup6, asTup7, asTup8, asTup9, asAgg2, asAgg3, asAgg4, asAgg5, asAgg6, asAgg7, asAgg8, asAgg9, asAgg12, getD0, getD1, getD2, getD3, getD4, getD5, getD6, getD7, getD8, getD9, getD10, getD11, getD12, getD13, getD14, getD15, getD16, getD17, getD18, getD19, Bool.not_true, Bool.not_false, Bool.false_eq_true, Bool.true_eq_false, ↓reduceIte, decide_true, decide_false, Option.isNone_some, Option.isNone_none, Option.isSome_some, Option.isSome_none, beq_self_eq_true, bne_self_eq_false, Bool.and_true, Bool.true_and, Bool.and_false, Bool.false_and, not_true_eq_false, not_false_eq_true]
        · rw [List.take_succ_eq_append_getElem hj] at hn'
          rcases List.mem_append.mp hn' with hn' | hn'
          · exact hno n hn'
          · simp only [List.mem_singleton] at hn'; rw [hn']; exact hal)
    (fun s x ⟨hs, hx, hno⟩ => by
      subst hs hx
      rw [List.take_length] at hno
      have hfind : pe.v.isr.find? (aliveB ns) = none := by rw [List.find?_eq_none]; intro n hn'; simp [hno n hn']
      refine ⟨.exit 0, (pe.v.isr.length : Int), x, ?_, by simp, rfl, by rw [hfind]; exact R1, Fr.refl _ _⟩
      have k0 : decide ((pe.v.isr.length : Int) < (pe.qi.2.1 : Int)) = false := by simp; omega
      unfold g71_l7_b
      simp only [k0, Bool.false_eq_true, if_false]) (k := 0) (s := 0) (w := w1) (Nat.zero_le _) ⟨rfl, rfl, by simp⟩
  have hk2 : k < (es.set k { pe with v := { pe.v with ld := (pe.v.isr.find? (aliveB ns)).getD (-1) } }).length := by simpa using hk
  have hget2 : (es.set k { pe with v := { pe.v with ld := (pe.v.isr.find? (aliveB ns)).getD (-1) } })[k] = { pe with v := { pe.v with ld := (pe.v.isr.find? (aliveB ns)).getD (-1) } } := by simp
  have c1 := R2.part_cell hk2 ha (j := 1) (by decide)
  rw [hget2] at c1
  have c1' : w2.cell? ⟨g, o + 1, none⟩ = some (.int .i64 pe.v.ep) := c1
  have hok2 := R2.ok _ (List.getElem_mem hk2)
  rw [hget2] at hok2
  obtain ⟨w3, s3, R3, f3⟩ := R2.part_put hk2 ha (j := 1) (by decide) { pe with v := electV ns pe.v } (.int .i64 (IntKind.i64.wrap (pe.v.ep + 1))) rfl (by rw [hget2]; rfl) (fun _ => id) ⟨hok2.oi, hok2.or_, hok2.ot, hok2.reg, hok2.len⟩ R2.lt
  rw [List.set_set] at R3
  refine ⟨w3, g71_call ?_, R3, ((f1.app f2).app f3).mono (by intro y hy _; simpa using hy)⟩
  have s1' : st1 w ⟨g, o, none⟩ (.int .i64 (-1)) = some w1 := s1
  unfold g71
  simp only [s1', addr_add, c3', obs, asP_pointer, asB_bool, asI_int, asS_string, asSl_slice, asM_map, asTup0, asTup1, asTup2, asTup3, asTup4, asTup5, asTup6, asTup7, asTup8, asTup9, asAgg2, asAgg3, asAgg4, asAgg5, asAgg6, asAgg7, asAgg8, asAgg9, asAgg12, getD0, getD1, getD2, getD3, getD4, getD5, getD6, getD7, getD8, getD9, getD10, getD11, getD12, getD13, getD14, getD15, getD16, getD17, getD18, getD19, Bool.not_true, Bool.not_false, Bool.false_eq_true, Bool.true_eq_false, ↓reduceIte, decide_true, decide_false, Option.isNone_some, Option.isNone_none, Option.isSome_some, Option.isSome_none, beq_self_eq_true, bne_self_eq_false, Bool.and_true, Bool.true_and, Bool.and_false, Bool.false_and, not_true_eq_false, not_false_eq_true]
  rw [g71_l7_x0_of g1]
  unfold g71_l7_x0
  simp only [addr_add, c1', s3, obs, asP_pointer, asB_bool, asI_int, asS_string, asSl_slice, asM_map, asTup0, asTup1, asTup2, asTup3, asTup4, asTup5, asTup6, asTup7, asTup8, asTup9, asAgg2, asAgg3, asAgg4, asAgg5, asAgg6, asAgg7, asAgg8, asAgg9, asAgg12, getD0, getD1, getD2, getD3, getD4, getD5, getD6, getD7, getD8, getD9, getD10, getD11, getD12, getD13, getD14, getD15, getD16, getD17, getD18, getD19, Bool.not_true, Bool.not_false, Bool.false_eq_true, Bool.true_eq_false, ↓reduceIte, decide_true, decide_false, Option.isNone_some, Option.isNone_none, Option.isSome_some, Option.isSome_none, beq_self_eq_true, bne_self_eq_false, Bool.and_true, Bool.true_and, Bool.and_false, Bool.false_and, not_true_eq_false, not_false_eq_true]
end
end Go.Proofs.Ytjcenfgmpbeldaa

namespace Go.Proofs.Ytjcenfgmpbeldaa
open Go Go.Ev
set_option maxRecDepth 100000
set_option linter.unusedVariables false
set_option linter.unusedSimpArgs false

def pv0 : PV := ⟨0, 0, 0, [], [], []⟩
def PV.arg (v : PV) (qi qr qt : Sh) : Value := .agg #[.int .i64 v.ld, .int .i64 v.ep, .int .i64 v.vr, .slice qi.1 qi.2.1 qi.2.2, .slice qr.1 qr.2.1 qr.2.2, .slice qt.1 qt.2.1 qt.2.2]
theorem pvcs_oc (v : PV) (qi qr qt : Sh) : ∀ u ∈ v.cs qi qr qt, u.oneCell' = true := by
  intro u hu
  simp only [PV.cs, List.mem_cons, List.not_mem_nil, or_false] at hu
  rcases hu with rfl | rfl | rfl | rfl | rfl | rfl <;> rfl
abbrev nl : Sh := (none, 0, 0)
theorem zero30 (w : World) : Blk (w.alloc (.cells #[.int .i64 0, .int .i64 0, .int .i64 0, .slice none 0 0, .slice none 0 0, .slice none 0 0] 30)) w.heap.size (pv0.cs nl nl nl) 30 ∧
    Fr [] w (w.alloc (.cells #[.int .i64 0, .int .i64 0, .int .i64 0, .slice none 0 0, .slice none 0 0, .slice none 0 0] 30)) := ⟨Blk.new w (pv0.cs nl nl nl) 30, Fr.alloc _⟩

theorem retP {w x : World} {g : Nat} {cs : List Value} (hb : Blk x g cs 30) (hl : cs.length = 6) (hf : Fr [] w x) (hg : w.heap.size ≤ g) (v : PV) (qi qr qt : Sh) :
    ∃ w', stL x ⟨g, 0, none⟩ [.int .i64 v.ld, .int .i64 v.ep, .int .i64 v.vr, .slice qi.1 qi.2.1 qi.2.2, .slice qr.1 qr.2.1 qr.2.2, .slice qt.1 qt.2.1 qt.2.2] 0 = some w' ∧
      ldN w' ⟨g, 0, none⟩ 0 6 = some [.int .i64 v.ld, .int .i64 v.ep, .int .i64 v.vr, .slice qi.1 qi.2.1 qi.2.2, .slice qr.1 qr.2.1 qr.2.2, .slice qt.1 qt.2.1 qt.2.2] ∧ Fr [] w w' ∧ Fr [g] x w' := by
  obtain ⟨w', h1, h2, h3⟩ := hb.stL (vs := v.cs qi qr qt) (by rw [hl]; rfl) (pvcs_oc v qi qr qt)
  exact ⟨w', h1, h2.ldN (n := 6) rfl, (hf.app h3).mono (by intro y hy hl; simp at hy; omega), h3⟩

/-- a partition in a block of its own -/
theorem newP (x : World) (v : PV) (qi qr qt : Sh) : ∃ x', stL (x.alloc (.cells #[.int .i64 0, .int .i64 0, .int .i64 0, .slice none 0 0, .slice none 0 0, .slice none 0 0] 30)) ⟨x.heap.size, 0, none⟩ [.int .i64 v.ld, .int .i64 v.ep, .int .i64 v.vr, .slice qi.1 qi.2.1 qi.2.2, .slice qr.1 qr.2.1 qr.2.2, .slice qt.1 qt.2.1 qt.2.2] 0 = some x' ∧
    Blk x' x.heap.size (v.cs qi qr qt) 30 ∧ Fr [] x x' ∧ ldN x' ⟨x.heap.size, 0, none⟩ 0 6 = some [.int .i64 v.ld, .int .i64 v.ep, .int .i64 v.vr, .slice qi.1 qi.2.1 qi.2.2, .slice qr.1 qr.2.1 qr.2.2, .slice qt.1 qt.2.1 qt.2.2] := by
  obtain ⟨b, f⟩ := zero30 x
  obtain ⟨x', h1, h2, h3⟩ := b.stL (vs := v.cs qi qr qt) rfl (pvcs_oc v qi qr qt)
  exact ⟨x', h1, h2, (f.app h3).mono (by intro y hy hl; simp at hy; omega), h2.ldN (n := 6) rfl⟩
theorem blk_put {w : World} {p : Nat} {cs : List Value} {T : TypeId} (h : Blk w p cs T) {i : Nat} (hi : i < cs.length) {v : Value} (hv : v.oneCell' = true) :
    ∃ w', st1 w ⟨p, i, none⟩ v = some w' ∧ Blk w' p (cs.set i v) T ∧ Fr [p] w w' := ⟨_, h.st1 hi hv, h.set i v, Fr.setCell⟩

section
variable {w : World} {D : Nat → Prop} {b c : Nat} {nq pq : Sh} {ns : List NV} {es : List PE} {next count : Int}

theorem part15_no (h : Raw w D b c nq pq ns es next count) {k : Int} (hk : k < 0 ∨ (es.length : Int) ≤ k) :
    ∃ w', callF Try.prog 15 #[.pointer (some ⟨b, 0, none⟩), .int .i64 k] w = some (.tuple #[pv0.arg nl nl nl, .bool false], w') ∧ Fr [] w w' := by
  obtain ⟨b1, f1⟩ := zero30 w
  obtain ⟨w1, hw1⟩ : ∃ w1, w.alloc (.cells #[.int .i64 0, .int .i64 0, .int .i64 0, .slice none 0 0, .slice none 0 0, .slice none 0 0] 30) = w1 := ⟨_, rfl⟩
  rw [hw1] at b1 f1
  obtain ⟨w', r1, r2, r3, _⟩ := retP b1 rfl f1 (Nat.le_refl _) pv0 nl nl nl
  simp only [pv0] at r1 r2
  have c1 : w1.cell? ⟨b, 1, none⟩ = some (.slice pq.1 pq.2.1 pq.2.2) := (h.fr f1 (by simp)).tbl.cell 1
  have hl := h.plen
  refine ⟨w', g15_call ?_, r3⟩
  by_cases k0 : k < 0
  · have k1 : decide (k < 0) = true := by simp [k0]
    unfold g15
    simp only [hw1, k1, r1, r2, obs, asP_pointer, asB_bool, asI_int, asS_string, asSl_slice, asM_map, asTup0, asTup1, asTup2, asTup3, asTup4, asTup5, asTup6, asTup7, asTup8, asTup9, asAgg2, asAgg3, asAgg4, asAgg5, asAgg6, asAgg7, asAgg8, asAgg9, asAgg12, getD0, getD1, getD2, getD3, getD4, getD5, getD6, getD7, getD8, getD9, getD10, getD11, getD12, getD13, getD14, getD15, getD16, getD17, getD18, getD19, Bool.not_true, Bool.not_false, Bool.false_eq_true, Bool.true_eq_false, ↓reduceIte, decide_true, decide_false, Option.isNone_some, Option.isNone_none, Option.isSome_some, Option.isSome_none, beq_self_eq_true, bne_self_eq_false, Bool.and_true, Bool.true_and, Bool.and_false, Bool.false_and, not_true_eq_false, not_false_eq_true]
    rfl
  · have k1 : decide (k < 0) = false := by simp; omega
    have k2 : decide (k ≥ (pq.2.1 : Int)) = true := by simp; omega
    unfold g15
    simp only [hw1, k1, addr_add, Nat.zero_add, c1, k2, r1, r2, obs, asP_pointer, asB_bool, asI_int, asS_string, asSl_slice, asM_map, asTup0, asTup1, asTup2, asTup3, asTup4, asTup5, asTup6, asTup7, asTup8, asTup9, asAgg2, asAgg3, asAgg4, asAgg5, asAgg6, asAgg7, asAgg8, asAgg9, asAgg12, getD0, getD1, getD2, getD3, getD4, getD5, getD6, getD7, getD8, getD9, getD10, getD11, getD12, getD13, getD14, getD15, getD16, getD17, getD18, getD19, Bool.not_true, Bool.not_false, Bool.false_eq_true, Bool.true_eq_false, ↓reduceIte, decide_true, decide_false, Option.isNone_some, Option.isNone_none, Option.isSome_some, Option.isSome_none, beq_self_eq_true, bne_self_eq_false, Bool.and_true, Bool.true_and, Bool.and_false, Bool.false_and, not_true_eq_false, not_false_eq_true]
    rfl

theorem part15 (h : Raw w D b c nq pq ns es next count) {k : Nat} (hk : k < es.length) :
    ∃ qi qr qt w', callF Try.prog 15 #[.pointer (some ⟨b, 0, none⟩), .int .i64 (k : Int)] w = some (.tuple #[es[k].v.arg qi qr qt, .bool true], w') ∧ Fr [] w w' ∧ Own w' 3 1 qi (intsV' es[k].v.isr) ∧ Own w' 3 1 qr (intsV' es[k].v.rep) ∧ Own w' 3 1 qt (intsV' es[k].v.tgt) ∧ (∀ y, y ∈ blkOf qi ∨ y ∈ blkOf qr ∨ y ∈ blkOf qt → w.heap.size ≤ y) ∧
      (∀ y ∈ blkOf qi, y ∉ blkOf qr ∧ y ∉ blkOf qt) ∧ ∀ y ∈ blkOf qr, y ∉ blkOf qt := by
  obtain ⟨b1, f1⟩ := zero30 w
  obtain ⟨w1, hw1⟩ : ∃ w1, w.alloc (.cells #[.int .i64 0, .int .i64 0, .int .i64 0, .slice none 0 0, .slice none 0 0, .slice none 0 0] 30) = w1 := ⟨_, rfl⟩
  rw [hw1] at b1 f1
  have R1 := h.fr f1 (by simp)
  have c1 : w1.cell? ⟨b, 1, none⟩ = some (.slice pq.1 pq.2.1 pq.2.2) := R1.tbl.cell 1
  have hl := h.plen
  obtain ⟨g, o, ha, _⟩ := R1.part_addr hk
  have hok := R1.ok _ (List.getElem_mem hk)
  have hcells := fun j (hj : j < 6) => R1.part_cell hk ha (j := j) hj
  obtain ⟨pe, hpe⟩ : ∃ pe, es[k] = pe := ⟨_, rfl⟩
  rw [hpe] at hok hcells ⊢
  have ld : ldN w1 ⟨g, o, none⟩ 0 6 = some pe.cs := ldN_of_cells (cs := pe.cs) (i := 0) fun j hj => by
    have hj' : j < 6 := hj
    rw [addr_add]
    simp only [Nat.zero_add]
    rw [hcells j hj']
    exact List.getElem?_eq_getElem hj
  obtain ⟨w2, s2, b2, f2, _⟩ := newP w1 pe.v pe.qi pe.qr pe.qt
  have fd := Fr.drew [] w2
  have F3 : Fr [] w1 w2.drew := (Fr.mono (Fr.app f2 fd) (by have z0_ := Fr.size f2; have z1_ := Fr.size fd; intro y_ hy_ hl_; grind [blkOf]))
  have b3 := b2.fr fd (by simp)
  have hok3 := hok.fr F3 (by simp) (fun _ => id)
  obtain ⟨qi, w4, e4, o4, f4, n4⟩ := clone36 hok3.oi.slC (fun hh => (hok3.oi.empty hh).2.1) hok3.len.1
  have hok4 := hok3.fr f4 (by simp) (fun _ => id)
  obtain ⟨qr, w5, e5, o5, f5, n5⟩ := clone36 hok4.or_.slC (fun hh => (hok4.or_.empty hh).2.1) hok4.len.2.1
  have hok5 := hok4.fr f5 (by simp) (fun _ => id)
  obtain ⟨qt, w6, e6, o6, f6, n6⟩ := clone36 hok5.ot.slC (fun hh => (hok5.ot.empty hh).2.1) hok5.len.2.2
  have b4 := b3.fr f4 (by simp)
  have b5 := b4.fr f5 (by simp)
  have b6 := b5.fr f6 (by simp)
  obtain ⟨w7, s7, b7, f7⟩ := blk_put b6 (i := 3) (v := .slice qi.1 qi.2.1 qi.2.2) (by simp [PV.cs]) rfl
  obtain ⟨w8, s8, b8, f8⟩ := blk_put b7 (i := 4) (v := .slice qr.1 qr.2.1 qr.2.2) (by simp [PV.cs]) rfl
  obtain ⟨w9, s9, b9, f9⟩ := blk_put b8 (i := 5) (v := .slice qt.1 qt.2.1 qt.2.2) (by simp [PV.cs]) rfl
  have b9' : Blk w9 w1.heap.size (pe.v.cs qi qr qt) 30 := b9
  have l9 := b9'.ldN (n := 6) rfl
  simp only [PV.cs] at l9
  have z1 := f1.size
  have z2 := f2.size
  have zd : w2.drew.heap.size = w2.heap.size := rfl
  have z4 := f4.size
  have z5 := f5.size
  have z6 := f6.size
  have lb2 := b2.lt
  have lb1 := b1.lt
  have F6 : Fr [] w w6 := (Fr.mono (Fr.app (Fr.app (Fr.app (Fr.app (Fr.app f1 f2) fd) f4) f5) f6) (by have z0_ := Fr.size f1; have z1_ := Fr.size f2; have z2_ := Fr.size fd; have z3_ := Fr.size f4; have z4_ := Fr.size f5; have z5_ := Fr.size f6; intro y_ hy_ hl_; grind [blkOf]))
  have F79 : Fr [w1.heap.size] w6 w9 := ((f7.app f8).app f9).mono (by intro y hy _; simpa using hy)
  have F9 : Fr [] w w9 := (F6.app F79).mono (by intro y hy hl; simp at hy; omega)
  have F26 : Fr [] w1 w6 := (Fr.mono (Fr.app (Fr.app (Fr.app (Fr.app f2 fd) f4) f5) f6) (by have z0_ := Fr.size f2; have z1_ := Fr.size fd; have z2_ := Fr.size f4; have z3_ := Fr.size f5; have z4_ := Fr.size f6; intro y_ hy_ hl_; grind [blkOf]))
  have b19 := (b1.fr F26 (by simp)).fr F79 (by simp; omega)
  obtain ⟨w', r1, r2, r3, r4⟩ := retP b19 rfl F9 (Nat.le_refl _) pe.v qi qr qt
  have p3 : w2.drew.cell? ⟨w1.heap.size, 3, none⟩ = some (.slice pe.qi.1 pe.qi.2.1 pe.qi.2.2) := b3.cell 3
  have p4 : w2.drew.cell? ⟨w1.heap.size, 4, none⟩ = some (.slice pe.qr.1 pe.qr.2.1 pe.qr.2.2) := b3.cell 4
  have p5 : w2.drew.cell? ⟨w1.heap.size, 5, none⟩ = some (.slice pe.qt.1 pe.qt.2.1 pe.qt.2.2) := b3.cell 5
  have q4 : w4.cell? ⟨w1.heap.size, 4, none⟩ = some (.slice pe.qr.1 pe.qr.2.1 pe.qr.2.2) := b4.cell 4
  have q5 : w4.cell? ⟨w1.heap.size, 5, none⟩ = some (.slice pe.qt.1 pe.qt.2.1 pe.qt.2.2) := b4.cell 5
  have u5 : w5.cell? ⟨w1.heap.size, 5, none⟩ = some (.slice pe.qt.1 pe.qt.2.1 pe.qt.2.2) := b5.cell 5
  have lt4 := own_lt' o4
  have lt5 := own_lt' o5
  have FF : Fr [w.heap.size, w1.heap.size] w6 w' := (F79.app r4).mono (by intro y hy _; simp at hy ⊢; omega)
  have ne : ∀ {q : Sh} {xs : List Value}, Own w6 3 1 q xs → (∀ y ∈ blkOf q, w2.heap.size ≤ y) → Own w' 3 1 q xs := fun ho hq => ho.fr FF (fun y hy hm => by have := hq y hy; simp at hm; omega)
  have G4 : ∀ y ∈ blkOf qi, w2.heap.size ≤ y := fun y hy => by have := n4 y hy; omega
  have G5 : ∀ y ∈ blkOf qr, w2.heap.size ≤ y := fun y hy => by have := n5 y hy; omega
  have G6 : ∀ y ∈ blkOf qt, w2.heap.size ≤ y := fun y hy => by have := n6 y hy; omega
  refine ⟨qi, qr, qt, w', g15_call ?_, r3, ne ((o4.fr f5 (by simp)).fr f6 (by simp)) G4, ne (o5.fr f6 (by simp)) G5, ne o6 G6, ?_, ?_, ?_⟩
  · have k1 : decide ((k : Int) < 0) = false := by simp
    have k2 : decide ((k : Int) ≥ (pq.2.1 : Int)) = false := by simp; omega
    simp only [PE.cs, PV.cs] at ld
    unfold g15
    simp only [hw1, k1, addr_add, Nat.zero_add, c1, k2, ha, ld, s2, p3, p4, p5, e4, q4, q5, g15_j58, g15_j63, g15_j77, g15_j92, e5, u5, e6, ite_self, s7, s8, s9, l9, r1, r2, obs, asP_pointer, asB_bool, asI_int, asS_string, asSl_slice, asM_map, asTup0, asTup1, asTup2, asTup3, asTup4, asTup5, asTup6, asTup7, asTup8, asTup9, asAgg2, asAgg3, asAgg4, asAgg5, asAgg6, asAgg7, asAgg8, asAgg9, asAgg12, getD0, getD1, getD2, getD3, getD4, getD5, getD6, getD7, getD8, getD9, getD10, getD11, getD12, getD13, getD14, getD15, getD16, getD17, getD18, getD19, Bool.not_true, Bool.not_false, Bool.false_eq_true, Bool.true_eq_false, ↓reduceIte, decide_true, decide_false, Option.isNone_some, Option.isNone_none, Option.isSome_some, Option.isSome_none, beq_self_eq_true, bne_self_eq_false, Bool.and_true, Bool.true_and, Bool.and_false, Bool.false_and, not_true_eq_false, not_false_eq_true]
    rfl
  · intro y hy
    rcases hy with hy | hy | hy
    · have := G4 y hy; omega
    · have := G5 y hy; omega
    · have := G6 y hy; omega
  · intro y hy
    have := lt4 y hy
    exact ⟨fun hm => by have := n5 y hm; omega, fun hm => by have := n6 y hm; omega⟩
  · intro y hy hm
    have := lt5 y hy
    have := n6 y hm
    omega
end
end Go.Proofs.Ytjcenfgmpbeldaa

namespace Go.Proofs.Ytjcenfgmpbeldaa
open Go Go.Ev
set_option maxRecDepth 100000
set_option linter.unusedVariables false
set_option linter.unusedSimpArgs false

/-- the first k are turned -/
def mt {α : Type} (f : α → α) (l : List α) (k : Nat) : List α := (l.take k).map f ++ l.drop k
theorem mt_len {α : Type} (f : α → α) (l : List α) (k : Nat) : (mt f l k).length = l.length := by simp [mt]; omega
theorem mt_zero {α : Type} (f : α → α) (l : List α) : mt f l 0 = l := by simp [mt]
theorem mt_all {α : Type} (f : α → α) (l : List α) : mt f l l.length = l.map f := by simp [mt]
theorem mt_get {α : Type} (f : α → α) (l : List α) {k : Nat} (hk : k < l.length) : (mt f l k)[k]'(by rw [mt_len]; exact hk) = l[k] := by
  unfold mt
  rw [List.getElem_append_right (by simp; omega)]
  simp [Nat.min_eq_left (Nat.le_of_lt hk)]
theorem mt_succ {α : Type} (f : α → α) (l : List α) {k : Nat} (hk : k < l.length) : mt f l (k + 1) = (mt f l k).set k (f l[k]) := by
  unfold mt
  rw [List.take_succ_eq_append_getElem hk, List.map_append, List.set_append_right _ _ (by simp; omega)]
  have e : k - ((l.take k).map f).length = 0 := by simp; omega
  have hd : l.drop k = l[k] :: l.drop (k + 1) := List.drop_eq_getElem_cons hk
  rw [e, hd, List.set_cons_zero, List.map_cons, List.map_nil, List.append_assoc, List.singleton_append]

def joinV (ns : List NV) (n : Int) (v : PV) : PV := if v.ld = n ∨ v.ld < 0 ∧ n ∈ v.isr then electV ns v else v
def onE (f : PV → PV) (e : PE) : PE := { e with v := f e.v }

section
variable {w : World} {D : Nat → Prop} {b c : Nat} {nq pq : Sh} {ns : List NV} {es : List PE} {next count : Int}

theorem join37 (h : Raw w D b c nq pq ns es next count) {n : Nat} (hn : n < ns.length) (t : Int) (hnm : ∀ e ∈ es, Names ns e.v.isr) (hel : es.length ≤ 1000) :
    ∃ w', callF Try.prog 37 #[.pointer (some ⟨b, 0, none⟩), .int .i64 (n : Int), .int .i64 t] w = some (.int .i64 (if t ≤ ns[n].cm then 5 else 0), w') ∧
      Raw w' D b c nq pq (if t ≤ ns[n].cm then ns else ns.set n { ns[n] with al := true, cm := t }) (if t ≤ ns[n].cm then es else es.map (onE (joinV (ns.set n { ns[n] with al := true, cm := t }) (n : Int)))) next count ∧ (∃ S, Fr S w w' ∧ ∀ y ∈ S, D y) := by
  have c0 : w.cell? ⟨b, 0, none⟩ = some (.slice nq.1 nq.2.1 nq.2.2) := h.tbl.cell 0
  obtain ⟨a, i1, r0, r1, r2⟩ := h.node_at hn
  by_cases ht : t ≤ ns[n].cm
  · rw [if_pos ht, if_pos ht, if_pos ht]
    have k1 : decide (t ≤ ns[n].cm) = true := by simp [ht]
    refine ⟨w, g37_call ?_, h, ⟨[], Fr.refl _ _, by simp⟩⟩
    unfold g37
    simp only [c0, i1, r1, k1, obs, asP_pointer, asB_bool, asI_int, asS_string, asSl_slice, asM_map, asTup0, asTup1, asTup2, asTup3, asTup4, asTup5, asTup6, asTup7, asTup8, asTup9, asAgg2, asAgg3, asAgg4, asAgg5, asAgg6, asAgg7, asAgg8, asAgg9, asAgg12, getD0, getD1, getD2, getD3, getD4, getD5, getD6, getD7, getD8, getD9, getD10, getD11, getD12, getD13, getD14, getD15, getD16, getD17, getD18, getD19, Bool.not_true, Bool.not_false, Bool.false_eq_true, Bool.true_eq_false, ↓reduceIte, decide_true, decide_false, Option.isNone_some, Option.isNone_none, Option.isSome_some, Option.isSome_none, beq_self_eq_true, bne_self_eq_false, Bool.and_true, Bool.true_and, Bool.and_false, Bool.false_and, not_true_eq_false, not_false_eq_true]
  rw [if_neg ht, if_neg ht, if_neg ht]
  have k1 : decide (t ≤ ns[n].cm) = false := by simp; omega
  have fd := Fr.drew [] w
  have hd := h.fr fd (by simp)
  have d0 : w.drew.cell? ⟨b, 0, none⟩ = some (.slice nq.1 nq.2.1 nq.2.2) := hd.tbl.cell 0
  obtain ⟨a1, w1, j1, s1, R1, f1⟩ := hd.setN hn (j := 0) (by decide) { ns[n] with al := true } (.bool true) rfl rfl
  have hn1 : n < (ns.set n { ns[n] with al := true }).length := by simpa using hn
  have hg1 : (ns.set n { ns[n] with al := true })[n] = { ns[n] with al := true } := by simp
  obtain ⟨a2, w2, j2, s2, R2, f2⟩ := R1.setN hn1 (j := 1) (by decide) { ns[n] with al := true, cm := t } (.int .i64 t) rfl (by rw [hg1]; rfl)
  rw [List.set_set] at R2
  rw [i1] at j1 j2
  cases j1
  cases j2
  obtain ⟨ns', hns'⟩ : ∃ ns', ns.set n { ns[n] with al := true, cm := t } = ns' := ⟨_, rfl⟩
  rw [hns'] at R2 ⊢
  have hnl : ns'.length = ns.length := by rw [← hns']; simp
  have hnm' : ∀ e ∈ es, Names ns' e.v.isr := fun e he x hx => by rw [hnl]; exact hnm e he x hx
  have p1 : w2.cell? ⟨b, 1, none⟩ = some (.slice pq.1 pq.2.1 pq.2.2) := R2.tbl.cell 1
  have hpl := R2.plen
  obtain ⟨tt, w3, g1, rfl, R3, f3⟩ := loopS_countX 0 (b := g37_l21_b pq (some ⟨b, 0, none⟩) (n : Int)) (I := fun k s x => s = (k : Int) ∧ Raw x D b c nq pq ns' (mt (onE (joinV ns' (n : Int))) es k) next count ∧ Fr (blkOf pq) w2 x) (n := es.length)
    (fun k s x hk ⟨hs, R, hf⟩ => by
      subst hs
      have hkm : k < (mt (onE (joinV ns' (n : Int))) es k).length := by rw [mt_len]; exact hk
      have hget := mt_get (onE (joinV ns' (n : Int))) es hk
      obtain ⟨g, o, ha, _⟩ := R.part_addr hkm
      have cc := fun j (hj : j < 6) => R.part_cell hkm ha (j := j) hj
      have hok := R.ok _ (List.getElem_mem hkm)
      rw [hget] at cc hok
      have cc0 : x.cell? ⟨g, o, none⟩ = some (.int .i64 es[k].v.ld) := cc 0 (by decide)
      have cc3 : x.cell? ⟨g, o + 3, none⟩ = some (.slice es[k].qi.1 es[k].qi.2.1 es[k].qi.2.2) := cc 3 (by decide)
      have px : x.cell? ⟨b, 1, none⟩ = some (.slice pq.1 pq.2.1 pq.2.2) := R.tbl.cell 1
      have k0 : decide ((k : Int) < (pq.2.1 : Int)) = true := by simp; omega
      have hw := wrap_succ (n := k) (by omega)
      have hl1 := hok.len.1
      have ec := contains32 (w := x) hok.oi.slC (by omega) (n : Int)
      have hx1 := hnm' es[k] (List.getElem_mem hk)
      have he := elect71 R hkm ha (by rw [hget]; exact hx1)
      rw [hget] at he
      rw [mt_succ _ _ hk]
      have stay : onE (joinV ns' (n : Int)) es[k] = es[k] → (mt (onE (joinV ns' (n : Int))) es k).set k (onE (joinV ns' (n : Int)) es[k]) = mt (onE (joinV ns' (n : Int))) es k := by
        intro hh
        rw [hh]
        have := List.set_getElem_self hkm
        rw [hget] at this
        exact this
      by_cases h1 : es[k].v.ld = (n : Int)
      · obtain ⟨x', e71, R', f'⟩ := he
        have q1 : (es[k].v.ld == (n : Int)) = true := by simp [h1]
        have hj : onE (joinV ns' (n : Int)) es[k] = { es[k] with v := electV ns' es[k].v } := by unfold onE joinV; rw [if_pos (.inl h1)]
        rw [hj]
        refine ⟨_, x', ?_, rfl, R', (hf.app f').mono (by intro y hy _; simpa using hy)⟩
        unfold g37_l21_b
        simp only [k0, addr_add, Nat.zero_add, px, ha, cc0, q1, e71, hw, obs, asP_pointer, asB_bool, asI_int, asS_string, asSl_slice, asM_map, asTup0, asTup1, asTup2, asTup3, asTup4, asTup5, asTup6, asTup7, asTup8, asTup9, asAgg2, asAgg3, asAgg4, asAgg5, asAgg6, asAgg7, asAgg8, asAgg9, asAgg12, getD0, getD1, getD2, getD3, getD4, getD5, getD6, getD7, getD8, getD9, getD10, getD11, getD12, getD13, getD14, getD15, getD16, getD17, getD18, getD19, Bool.not_true, Bool.not_false, Bool.false_eq_true, Bool.true_eq_false, ↓reduceIte, decide_true, decide_false, Option.isNone_some, Option.isNone_none, Option.isSome_some, Option.isSome_none, beq_self_eq_true, bne_self_eq_false, Bool.and_true, Bool.true_and, Bool.and_false, Bool.false_and, not_true_eq_false, not_false_eq_true]
      · have q1 : (es[k].v.ld == (n : Int)) = false := by simp [h1]
        by_cases h2 : es[k].v.ld < 0
        · have q2 : decide (es[k].v.ld < 0) = true := by simp [h2]
          by_cases h3 : (n : Int) ∈ es[k].v.isr
          · obtain ⟨x', e71, R', f'⟩ := he
            have q3 : decide ((n : Int) ∈ es[k].v.isr) = true := by simp [h3]
            have hj : onE (joinV ns' (n : Int)) es[k] = { es[k] with v := electV ns' es[k].v } := by unfold onE joinV; rw [if_pos (.inr ⟨h2, h3⟩)]
            rw [hj]
            refine ⟨_, x', ?_, rfl, R', (hf.app f').mono (by intro y hy _; simpa using hy)⟩
            unfold g37_l21_b
            simp only [k0, addr_add, Nat.zero_add, px, ha, cc0, q1, q2, cc3, ec, q3, e71, hw, obs, asP_pointer, asB_bool, asI_int, asS_string, asSl_slice, asM_map, asTup0, asTup1, asTup2, asTup3, asTup4, asTup5, asTup6, asTup7, asTup8, asTup9, asAgg2, asAgg3, asAgg4, asAgg5, asAgg6, asAgg7, asAgg8, asAgg9, asAgg12, getD0, getD1, getD2, getD3, getD4, getD5, getD6, getD7, getD8, getD9, getD10, getD11, getD12, getD13, getD14, getD15, getD16, getD17, getD18, getD19, Bool.not_true, Bool.not_false, Bool.false_eq_true, Bool.true_eq_false, ↓reduceIte, decide_true, decide_false, Option.isNone_some, Option.isNone_none, Option.isSome_some, Option.isSome_none, beq_self_eq_true, bne_self_eq_false, Bool.and_true, Bool.true_and, Bool.and_false, Bool.false_and, not_true_eq_false, not_false_eq_true]
          · have q3 : decide ((n : Int) ∈ es[k].v.isr) = false := by simp [h3]
            have hj : onE (joinV ns' (n : Int)) es[k] = es[k] := by unfold onE joinV; rw [if_neg (by rintro (hh | hh); exact h1 hh; exact h3 hh.2)]
            rw [stay hj]
            refine ⟨_, x, ?_, rfl, R, hf⟩
            unfold g37_l21_b
            simp only [k0, addr_add, Nat.zero_add, px, ha, cc0, q1, q2, cc3, ec, q3, hw, obs, asP_pointer, asB_bool, asI_int, asS_string, asSl_slice, asM_map, asTup0, asTup1, asTup2, asTup3, asTup4, asTup5, asTup6, asTup7, asTup8, asTup9, asAgg2, asAgg3, asAgg4, asAgg5, asAgg6, asAgg7, asAgg8, asAgg9, asAgg12, getD0, getD1, getD2, getD3, getD4, getD5, getD6, getD7, getD8, getD9, getD10, getD11, getD12, getD13, getD14, getD15, getD16, getD17, getD18, getD19, Bool.not_true, Bool.not_false, Bool.false_eq_true, Bool.true_eq_false, ↓reduceIte, decide_true, decide_false, Option.isNone_some, Option.isNone_none, Option.isSome_some, Option.isSome_none, beq_self_eq_true, bne_self_eq_false, Bool.and_true, Bool.true_and, Bool.and_false, Bool.false_and, not_true_eq_false, not_false_eq_true]
        · have q2 : decide (es[k].v.ld < 0) = false := by simp; omega
          have hj : onE (joinV ns' (n : Int)) es[k] = es[k] := by unfold onE joinV; rw [if_neg (by rintro (hh | hh); exact h1 hh; exact h2 hh.1)]
          rw [stay hj]
          refine ⟨_, x, ?_, rfl, R, hf⟩
          unfold g37_l21_b
          simp only [k0, addr_add, Nat.zero_add, px, ha, cc0, q1, q2, hw, obs, asP_pointer, asB_bool, asI_int, asS_string, asSl_slice, asM_map, asTup0, asTup1, asTup2, asTup3, asTup4, asTup5, asTup6, asTup7, asTup8, asTup9, asAgg2, asAgg3, asAgg4, asAgg5, asAgg6, asAgg7, asAgg8, asAgg9, asAgg12, getD0, getD1, getD2, getD3, getD4, getD5, getD6, getD7, getD8, getD9, getD10, getD11, getD12, getD13, getD14, getD15, getD16, getD17, getD18, getD19, Bool.not_true, Bool.not_false, Bool.false_eq_true, Bool.true_eq_false, ↓reduceIte, decide_true, decide_false, Option.isNone_some, Option.isNone_none, Option.isSome_some, Option.isSome_none, beq_self_eq_true, bne_self_eq_false, Bool.and_true, Bool.true_and, Bool.and_false, Bool.false_and, not_true_eq_false, not_false_eq_true])
    (fun s x ⟨hs, _⟩ => by
      subst hs
      unfold g37_l21_b
      have k0 : decide ((es.length : Int) < (pq.2.1 : Int)) = false := by simp; omega
      simp only [k0, Bool.false_eq_true, if_false]) (k := 0) (s := 0) (w := w2) (Nat.zero_le _) ⟨rfl, by rw [mt_zero]; exact R2, Fr.refl _ _⟩
  rw [mt_all] at R3
  have rn := h.rn
  have rp := h.rp
  refine ⟨w3, g37_call ?_, R3, ⟨blkOf nq ++ blkOf pq, ((((fd.app f1).app f2).app f3)).mono (by intro y hy _; simpa using hy), fun y hy => by rcases List.mem_append.mp hy with hy | hy; exact rn y hy; exact rp y hy⟩⟩
  have s1' : st1 w.drew a (.bool true) = some w1 := by
    have : Addr.add a 0 = a := by unfold Addr.add; simp
    rw [this] at s1; exact s1
  unfold g37
  simp only [c0, i1, r1, k1, d0, s1', s2, addr_add, Nat.zero_add, p1, obs, asP_pointer, asB_bool, asI_int, asS_string, asSl_slice, asM_map, asTup0, asTup1, asTup2, asTup3, asTup4, asTup5, asTup6, asTup7, asTup8, asTup9, asAgg2, asAgg3, asAgg4, asAgg5, asAgg6, asAgg7, asAgg8, asAgg9, asAgg12, getD0, getD1, getD2, getD3, getD4, getD5, getD6, getD7, getD8, getD9, getD10, getD11, getD12, getD13, getD14, getD15, getD16, getD17, getD18, getD19, Bool.not_true, Bool.not_false, Bool.false_eq_true, Bool.true_eq_false, ↓reduceIte, decide_true, decide_false, Option.isNone_some, Option.isNone_none, Option.isSome_some, Option.isSome_none, beq_self_eq_true, bne_self_eq_false, Bool.and_true, Bool.true_and, Bool.and_false, Bool.false_and, not_true_eq_false, not_false_eq_true]
  rw [g37_l21_x0_of g1, g37_l21_x0]
end
end Go.Proofs.Ytjcenfgmpbeldaa

namespace Go.Proofs.Ytjcenfgmpbeldaa
open Go Go.Ev
set_option maxRecDepth 100000
set_option linter.unusedVariables false
set_option linter.unusedSimpArgs false

/-- a command -/
structure CV where
  k : Int
  nd : Int
  pt : Int
  ep : Int
  vr : Int
  ls : List Int
def CV.cs (x : CV) (q : Sh) : List Value := [.int .i64 x.k, .int .i64 x.nd, .int .i64 x.pt, .int .i64 x.ep, .int .i64 x.vr, .slice q.1 q.2.1 q.2.2]
def CV.arg (x : CV) (q : Sh) : Value := .agg #[.int .i64 x.k, .int .i64 x.nd, .int .i64 x.pt, .int .i64 x.ep, .int .i64 x.vr, .slice q.1 q.2.1 q.2.2]

section
variable {w : World} {D : Nat → Prop} {b c : Nat} {nq pq : Sh} {ns : List NV} {es : List PE} {next count : Int}

/-- the command spilled, and counted -/
theorem apply_pre (h : Raw w D b c nq pq ns es next count) (x : CV) (q : Sh) :
    ∃ w1 w5, w.alloc (.cells #[.int .i64 x.k, .int .i64 x.nd, .int .i64 x.pt, .int .i64 x.ep, .int .i64 x.vr, .slice q.1 q.2.1 q.2.2] 33) = w1 ∧ w1.cell? ⟨b, 3, none⟩ = some (.int .i64 count) ∧ st1 w1 ⟨b, 3, none⟩ (.int .i64 (IntKind.i64.wrap (count + 1))) = some w5 ∧
      Raw w5 D b c nq pq ns es next (IntKind.i64.wrap (count + 1)) ∧ Blk w5 w.heap.size (x.cs q) 33 ∧ Fr [b] w w5 ∧ w.heap.size < w5.heap.size := by
  have f1 : Fr [] w (w.alloc (.cells #[.int .i64 x.k, .int .i64 x.nd, .int .i64 x.pt, .int .i64 x.ep, .int .i64 x.vr, .slice q.1 q.2.1 q.2.2] 33)) := Fr.alloc _
  have b1 : Blk (w.alloc (.cells #[.int .i64 x.k, .int .i64 x.nd, .int .i64 x.pt, .int .i64 x.ep, .int .i64 x.vr, .slice q.1 q.2.1 q.2.2] 33)) w.heap.size (x.cs q) 33 := Blk.new w (x.cs q) 33
  obtain ⟨w1, hw1⟩ : ∃ w1, w.alloc (.cells #[.int .i64 x.k, .int .i64 x.nd, .int .i64 x.pt, .int .i64 x.ep, .int .i64 x.vr, .slice q.1 q.2.1 q.2.2] 33) = w1 := ⟨_, rfl⟩
  rw [hw1] at f1 b1
  have R1 := h.fr f1 (by simp)
  obtain ⟨w5, s5, R5, f5⟩ := R1.setC (IntKind.i64.wrap (count + 1))
  have lb := h.lt b h.rb
  have b5 := b1.fr f5 (by simp; omega)
  have := b5.lt
  exact ⟨w1, w5, hw1, R1.tbl.cell 3, s5, R5, b5, (f1.app f5).mono (by intro y hy _; simpa using hy), this⟩

theorem chgD {w w5 w' : World} {b : Nat} {D : Nat → Prop} (hb : D b) (f5 : Fr [b] w w5) (c : ∃ S, Fr S w5 w' ∧ ∀ y ∈ S, D y) : ∃ S, Fr S w w' ∧ ∀ y ∈ S, D y := by
  obtain ⟨S, f, hS⟩ := c
  exact ⟨b :: S, (f5.app f).mono (by intro y hy _; simpa using hy), by intro y hy; rcases List.mem_cons.mp hy with rfl | hy; exact hb; exact hS y hy⟩

theorem apply_join (h : Raw w D b c nq pq ns es next count) (x : CV) (q : Sh) (hx : x.k = 1) {n : Nat} (hn : n < ns.length) (hxn : x.nd = (n : Int)) (hnm : ∀ e ∈ es, Names ns e.v.isr) (hel : es.length ≤ 1000) :
    ∃ w', callF Try.prog 13 #[.pointer (some ⟨b, 0, none⟩), x.arg q] w = some (.int .i64 (if x.ep ≤ ns[n].cm then 5 else 0), w') ∧
      Raw w' D b c nq pq (if x.ep ≤ ns[n].cm then ns else ns.set n { ns[n] with al := true, cm := x.ep }) (if x.ep ≤ ns[n].cm then es else es.map (onE (joinV (ns.set n { ns[n] with al := true, cm := x.ep }) (n : Int)))) next (IntKind.i64.wrap (count + 1)) ∧ (∃ S, Fr S w w' ∧ ∀ y ∈ S, D y) := by
  obtain ⟨w1, w5, hw1, c3, s5, R5, b5, f5, hz⟩ := apply_pre h x q
  have fd := Fr.drew [] w5
  have Rd := R5.fr fd (by simp)
  have bd := b5.fr fd (by simp)
  obtain ⟨w6, e6, R6, ch⟩ := join37 Rd hn x.ep hnm hel
  have k0 : w5.cell? ⟨w.heap.size, 0, none⟩ = some (.int .i64 x.k) := b5.cell 0
  have d0 : w5.drew.cell? ⟨w.heap.size, 0, none⟩ = some (.int .i64 x.k) := bd.cell 0
  have d1 : w5.drew.cell? ⟨w.heap.size, 1, none⟩ = some (.int .i64 x.nd) := bd.cell 1
  have d3 : w5.drew.cell? ⟨w.heap.size, 3, none⟩ = some (.int .i64 x.ep) := bd.cell 3
  have p0 : w5.drew.cell? ⟨b, 0, none⟩ = some (.slice nq.1 nq.2.1 nq.2.2) := Rd.tbl.cell 0
  have hl := h.nlen
  have q1 : (x.k == 1) = true := by simp [hx]
  have q2 : decide (x.nd < 0) = false := by simp; omega
  have q3 : decide (x.nd ≥ (nq.2.1 : Int)) = false := by simp; omega
  obtain ⟨S, fS, hS⟩ := ch
  refine ⟨w6, g13_call ?_, R6, chgD h.rb f5 ⟨S, by simpa using fd.app fS, hS⟩⟩
  rw [← hxn] at e6
  unfold g13
  simp only [hw1, addr_add, Nat.zero_add, c3, s5, k0, q1, g13_j9, d1, q2, p0, q3, g13_j6, d0, d3, e6, obs, asP_pointer, asB_bool, asI_int, asS_string, asSl_slice, asM_map, asTup0, asTup1, asTup2, asTup3, asTup4, asTup5, asTup6, asTup7, asTup8, asTup9, asAgg2, asAgg3, asAgg4, asAgg5, asAgg6, asAgg7, asAgg8, asAgg9, asAgg12, getD0, getD1, getD2, getD3, getD4, getD5, getD6, getD7, getD8, getD9, getD10, getD11, getD12, getD13, getD14, getD15, getD16, getD17, getD18, getD19, Bool.not_true, Bool.not_false, Bool.false_eq_true, Bool.true_eq_false, ↓reduceIte, decide_true, decide_false, Option.isNone_some, Option.isNone_none, Option.isSome_some, Option.isSome_none, beq_self_eq_true, bne_self_eq_false, Bool.and_true, Bool.true_and, Bool.and_false, Bool.false_and, not_true_eq_false, not_false_eq_true]

theorem apply_block (h : Raw w D b c nq pq ns es next count) (x : CV) (q : Sh) (hx : x.k = 5) {n : Nat} (hn : n < ns.length) (hxn : x.nd = (n : Int)) (h0 : 0 ≤ next ∧ next ≤ 1001) :
    ∃ w', callF Try.prog 13 #[.pointer (some ⟨b, 0, none⟩), x.arg q] w = some (.int .i64 (if 1001 - next < 10 then 17 else 0), w') ∧
      Raw w' D b c nq pq (if 1001 - next < 10 then ns else ns.set n { ns[n] with bk := next }) es (if 1001 - next < 10 then next else next + 10) (IntKind.i64.wrap (count + 1)) ∧ (∃ S, Fr S w w' ∧ ∀ y ∈ S, D y) := by
  obtain ⟨w1, w5, hw1, c3, s5, R5, b5, f5, hz⟩ := apply_pre h x q
  have fd := Fr.drew [] w5
  have Rd := R5.fr fd (by simp)
  have bd := b5.fr fd (by simp)
  obtain ⟨w6, e6, R6, ch⟩ := grant41 Rd h0 hn
  have k0 : w5.cell? ⟨w.heap.size, 0, none⟩ = some (.int .i64 x.k) := b5.cell 0
  have d0 : w5.drew.cell? ⟨w.heap.size, 0, none⟩ = some (.int .i64 x.k) := bd.cell 0
  have d1 : w5.drew.cell? ⟨w.heap.size, 1, none⟩ = some (.int .i64 x.nd) := bd.cell 1
  have p0 : w5.drew.cell? ⟨b, 0, none⟩ = some (.slice nq.1 nq.2.1 nq.2.2) := Rd.tbl.cell 0
  have hl := h.nlen
  have q1 : (x.k == 1) = false := by simp [hx]
  have q12 : (x.k == 2) = false := by simp [hx]
  have q13 : (x.k == 3) = false := by simp [hx]
  have q14 : (x.k == 4) = false := by simp [hx]
  have q15 : (x.k == 5) = true := by simp [hx]
  have q2 : decide (x.nd < 0) = false := by simp; omega
  have q3 : decide (x.nd ≥ (nq.2.1 : Int)) = false := by simp; omega
  obtain ⟨S, fS, hS⟩ := ch
  refine ⟨w6, g13_call ?_, R6, chgD h.rb f5 ⟨S, by simpa using fd.app fS, hS⟩⟩
  rw [← hxn] at e6
  unfold g13
  simp only [hw1, addr_add, Nat.zero_add, c3, s5, k0, q1, q12, q15, g13_j9, d1, q2, p0, q3, g13_j6, d0, q13, q14, e6, obs, asP_pointer, asB_bool, asI_int, asS_string, asSl_slice, asM_map, asTup0, asTup1, asTup2, asTup3, asTup4, asTup5, asTup6, asTup7, asTup8, asTup9, asAgg2, asAgg3, asAgg4, asAgg5, asAgg6, asAgg7, asAgg8, asAgg9, asAgg12, getD0, getD1, getD2, getD3, getD4, getD5, getD6, getD7, getD8, getD9, getD10, getD11, getD12, getD13, getD14, getD15, getD16, getD17, getD18, getD19, Bool.not_true, Bool.not_false, Bool.false_eq_true, Bool.true_eq_false, ↓reduceIte, decide_true, decide_false, Option.isNone_some, Option.isNone_none, Option.isSome_some, Option.isSome_none, beq_self_eq_true, bne_self_eq_false, Bool.and_true, Bool.true_and, Bool.and_false, Bool.false_and, not_true_eq_false, not_false_eq_true]
end

theorem isort_set (l : List Int) (x : Int) : x ∈ isort l ↔ x ∈ l := (isort_perm l).mem_iff

theorem awake12 (w : World) : ∃ w', callF Try.prog 12 #[] w = some (.bool true, w') ∧ Fr [] w w' := by
  obtain ⟨w1, D, b, ct, nq, pq, es, e1, R1, hes, f1, hD⟩ := new11 w (n := 3) (p := 2) (c := 2) (by decide) (by decide) (by decide)
  have hel : es.length = 2 := by have := congrArg List.length hes; simpa [newParts] using this
  have hv : ∀ k (hk : k < es.length), es[k].v = newPart 3 2 k := by
    intro k hk
    have : (es.map (·.v))[k]'(by simpa using hk) = (newParts 3 2 2)[k]'(by simp [newParts]; omega) := by simp only [hes]
    simpa [newParts] using this
  have hmem : ∀ e ∈ es, Names (List.replicate 3 nv0) e.v.isr := by
    intro e he
    obtain ⟨k, hk, rfl⟩ := List.getElem_of_mem he
    rw [hv k hk]
    intro x hx
    have hx : x ∈ onR 3 2 k := (isort_set _ _).mp hx
    simp [onR] at hx
    obtain ⟨i, hi, rfl⟩ := hx
    have : (k + i) % 3 < 3 := Nat.mod_lt _ (by decide)
    simp
    omega
  obtain ⟨w2, e2, R2, S, f2, hS⟩ := apply_join R1 ⟨1, 1, 0, 1, 0, []⟩ nl rfl (n := 1) (by decide) rfl hmem (by omega)
  have hcm : ¬ ((1 : Int) ≤ (List.replicate 3 nv0)[1].cm) := by decide
  simp only [hcm, if_false] at e2 R2
  obtain ⟨ns', hns'⟩ : ∃ ns', (List.replicate 3 nv0).set 1 { (List.replicate 3 nv0)[1] with al := true, cm := (⟨1, 1, 0, 1, 0, []⟩ : CV).ep } = ns' := ⟨_, rfl⟩
  rw [hns'] at R2
  have h1 : 1 < (es.map (onE (joinV ns' ((1 : Nat) : Int)))).length := by simp [hel]
  obtain ⟨qi, qr, qt, w3, e3, f3, oi, _⟩ := part15 R2 h1
  have hv1 : (es.map (onE (joinV ns' ((1 : Nat) : Int))))[1].v = electV ns' (newPart 3 2 1) := by
    rw [List.getElem_map]
    have hm : (1 : Int) ∈ (newPart 3 2 1).isr := (isort_set _ _).mpr (by decide)
    show joinV ns' ((1 : Nat) : Int) es[1].v = _
    rw [hv 1 (by omega)]
    unfold joinV
    rw [if_pos (.inr ⟨by decide, hm⟩)]
  rw [hv1] at e3 oi
  have his : (newPart 3 2 1).isr = [1, 2] := by
    show isort (onR 3 2 1) = [1, 2]
    exact (isort_of (l := onR 3 2 1) (l' := [1, 2]) (by decide) (by decide)).symm
  have hld : (electV ns' (newPart 3 2 1)).ld = 1 := by
    unfold electV
    rw [his, ← hns']
    rfl
  have hep : (electV ns' (newPart 3 2 1)).ep = 1 := by rfl
  have hle : (electV ns' (newPart 3 2 1)).isr.length = 2 := by show (newPart 3 2 1).isr.length = 2; rw [his]; rfl
  obtain ⟨pv, hpv⟩ : ∃ pv, electV ns' (newPart 3 2 1) = pv := ⟨_, rfl⟩
  rw [hpv] at e3 oi hld hep hle
  have hql : qi.2.1 = 2 := by have := oi.len; simp at this; omega
  obtain ⟨w4, s4, b4, f4, _⟩ := newP w3 pv qi qr qt
  have d0 : w4.cell? ⟨w3.heap.size, 0, none⟩ = some (.int .i64 pv.ld) := b4.cell 0
  have d1 : w4.cell? ⟨w3.heap.size, 1, none⟩ = some (.int .i64 pv.ep) := b4.cell 1
  have d3 : w4.cell? ⟨w3.heap.size, 3, none⟩ = some (.slice qi.1 qi.2.1 qi.2.2) := b4.cell 3
  have e2' : callF Try.prog 13 #[.pointer (some ⟨b, 0, none⟩), .agg #[.int .i64 1, .int .i64 1, .int .i64 0, .int .i64 1, .int .i64 0, .slice none 0 0]] w1 = some (.int .i64 0, w2) := e2
  have e3' : callF Try.prog 15 #[.pointer (some ⟨b, 0, none⟩), .int .i64 1] w2 = some (.tuple #[.agg #[.int .i64 pv.ld, .int .i64 pv.ep, .int .i64 pv.vr, .slice qi.1 qi.2.1 qi.2.2, .slice qr.1 qr.2.1 qr.2.2, .slice qt.1 qt.2.1 qt.2.2], .bool true], w3) := e3
  have e1' : callF Try.prog 11 #[.int .i64 3, .int .i64 2, .int .i64 2] w = some (.tuple #[.pointer (some ⟨b, 0, none⟩), .int .i64 0], w1) := e1
  have kk : ((0 : Int) != 0) = false := rfl
  have k1 : (pv.ld == 1) = true := by rw [hld]; rfl
  have k2 : (pv.ep == 1) = true := by rw [hep]; rfl
  have k3 : (((qi.2.1 : Nat) : Int) == 2) = true := by rw [hql]; rfl
  refine ⟨w4, g12_call ?_, (((f1.app f2).app f3).app f4).mono (by intro y hy hl; simp at hy; have := hD y (hS y hy); omega)⟩
  unfold g12
  simp only [e1', kk, e2', e3', s4, d0, k1, addr_add, Nat.zero_add, d1, k2, d3, k3, obs, asP_pointer, asB_bool, asI_int, asS_string, asSl_slice, asM_map, asTup0, asTup1, asTup2, asTup3, asTup4, asTup5, asTup6, asTup7, asTup8, asTup9, asAgg2, asAgg3, asAgg4, asAgg5, asAgg6, asAgg7, asAgg8, asAgg9, asAgg12, getD0, getD1, getD2, getD3, getD4, getD5, getD6, getD7, getD8, getD9, getD10, getD11, getD12, getD13, getD14, getD15, getD16, getD17, getD18, getD19, Bool.not_true, Bool.not_false, Bool.false_eq_true, Bool.true_eq_false, ↓reduceIte, decide_true, decide_false, Option.isNone_some, Option.isNone_none, Option.isSome_some, Option.isSome_none, beq_self_eq_true, bne_self_eq_false, Bool.and_true, Bool.true_and, Bool.and_false, Bool.false_and, not_true_eq_false, not_false_eq_true]
end Go.Proofs.Ytjcenfgmpbeldaa

namespace Go.Proofs.Ytjcenfgmpbeldaa
open Go Go.Ev
set_option maxRecDepth 100000
set_option linter.unusedVariables false
set_option linter.unusedSimpArgs false

/-! ## lists of nodes that rise -/
def upB (n : Int) : Int → List Int → Bool
  | _, [] => true
  | last, x :: r => decide (last < x ∧ x < n) && upB n x r
def sortedI (n : Nat) (l : List Int) : Prop := l ≠ [] ∧ upB n (-1) l = true
instance (n : Nat) (l : List Int) : Decidable (sortedI n l) := by unfold sortedI; exact inferInstance
theorem upB_spec {n : Int} : ∀ {l : List Int} {x : Int}, upB n x l = true → (∀ y ∈ l, x < y ∧ y < n) ∧ l.Pairwise (· < ·)
  | [], _, _ => ⟨by simp, List.Pairwise.nil⟩
  | z :: l, x, h => by
    unfold upB at h
    simp only [Bool.and_eq_true, decide_eq_true_eq] at h
    obtain ⟨h1, h2⟩ := upB_spec h.2
    refine ⟨fun y hy => ?_, ?_⟩
    · rcases List.mem_cons.mp hy with rfl | hy
      · exact h.1
      · have := h1 y hy; omega
    · rw [List.pairwise_cons]; exact ⟨fun y hy => (h1 y hy).1, h2⟩
theorem upB_of {n : Int} : ∀ {l : List Int} {x : Int}, (∀ y ∈ l, x < y ∧ y < n) → l.Pairwise (· < ·) → upB n x l = true
  | [], _, _, _ => rfl
  | z :: l, x, h, hp => by
    unfold upB
    rw [List.pairwise_cons] at hp
    have h1 := h z (by simp)
    rw [upB_of (x := z) (fun y hy => ⟨hp.1 y hy, (h y (by simp [hy])).2⟩) hp.2]
    simp [h1]
theorem sortedI_iff {n : Nat} {l : List Int} : sortedI n l ↔ l ≠ [] ∧ (∀ y ∈ l, 0 ≤ y ∧ y < (n : Int)) ∧ l.Pairwise (· < ·) := by
  unfold sortedI
  constructor
  · rintro ⟨h1, h2⟩
    obtain ⟨h3, h4⟩ := upB_spec h2
    exact ⟨h1, fun y hy => by have := h3 y hy; omega, h4⟩
  · rintro ⟨h1, h2, h3⟩
    exact ⟨h1, upB_of (fun y hy => by have := h2 y hy; omega) h3⟩
theorem up_len : ∀ {l : List Int} {a n : Int}, (∀ y ∈ l, a ≤ y ∧ y < n) → l.Pairwise (· < ·) → (l.length : Int) ≤ max 0 (n - a)
  | [], _, _, _, _ => by simp only [List.length_nil]; omega
  | z :: l, a, n, h, hp => by
    rw [List.pairwise_cons] at hp
    have h1 := h z (by simp)
    have := up_len (l := l) (a := z + 1) (n := n) (fun y hy => by have := hp.1 y hy; have := h y (by simp [hy]); omega) hp.2
    simp only [List.length_cons]; omega
theorem sortedI_len {n : Nat} {l : List Int} (h : sortedI n l) : l.length ≤ n := by
  obtain ⟨_, h2, h3⟩ := sortedI_iff.mp h
  have := up_len h2 h3
  omega
theorem sortedI_names {n : Nat} {ns : List NV} {l : List Int} (h : sortedI n l) (hn : n = ns.length) : Names ns l := by
  subst hn; exact (sortedI_iff.mp h).2.1

section
variable {w : World} {D : Nat → Prop} {b c : Nat} {nq pq : Sh} {ns : List NV} {es : List PE} {next count : Int}

theorem sorted75 (h : Raw w D b c nq pq ns es next count) {q : Sh} {l : List Int} (hu : SlI .i64 w q l) (hl : l.length ≤ 9223372036854775807) :
    callF Try.prog 75 #[.pointer (some ⟨b, 0, none⟩), .slice q.1 q.2.1 q.2.2] w = some (.bool (decide (sortedI ns.length l)), w) := by
  have hq := hu.1
  have c0 : w.cell? ⟨b, 0, none⟩ = some (.slice nq.1 nq.2.1 nq.2.2) := h.tbl.cell 0
  have hnl := h.nlen
  obtain ⟨e, t, w', g1, rfl, hQ⟩ := loopS_rule (b := g75_l2_b q (some ⟨b, 0, none⟩))
    (I := fun k s x => x = w ∧ ∃ last : Int, s = (false, (k : Int)) ∧ -1 ≤ last ∧ (k = 0 → last = -1) ∧ (0 < k → l[k - 1]? = some last) ∧ upB ns.length (-1) l = upB ns.length last (l.drop k))
    (Q := fun e s x => x = w ∧ (e = .ret ∧ s.1 = false ∧ upB ns.length (-1) l = false ∨ e = .exit 0 ∧ upB ns.length (-1) l = true)) (n := l.length)
    (fun k s x hk ⟨hx, last, hs, h0, h1, h2, h3⟩ => by
      subst hs hx
      obtain ⟨a, i1, c1⟩ := hu.get hk
      have k0 : decide ((k : Int) < (q.2.1 : Int)) = true := by simp; omega
      have hw := wrap_succ (n := k) (by omega)
      rw [List.drop_eq_getElem_cons hk, upB] at h3
      by_cases n0 : l[k] < 0
      · have k1 : decide (l[k] < 0) = true := by simp [n0]
        refine ⟨.ret, (false, (k : Int)), x, ?_, .inr ⟨by simp, rfl, .inl ⟨rfl, rfl, ?_⟩⟩⟩
        · unfold g75_l2_b
          simp only [k0, i1, c1, k1, obs, asP_pointer, asB_bool, asI_int, asS_string, asSl_slice, asM_map, asTup0, asTup1, asTup2, asTup3, asTup4, asTup5, asTup6, asTup7, asTup8, asTup9, asAgg2, asAgg3, asAgg4, asAgg5, asAgg6, asAgg7, asAgg8, asAgg9, asAgg12, getD0, getD1, getD2, getD3, getD4, getD5, getD6, getD7, getD8, getD9, getD10, getD11, getD12, getD13, getD14, getD15, getD16, getD17, getD18, getD19, Bool.not_true, Bool.not_false, Bool.false_eq_true, Bool.true_eq_false, ↓reduceIte, decide_true, decide_false, Option.isNone_some, Option.isNone_none, Option.isSome_some, Option.isSome_none, beq_self_eq_true, bne_self_eq_false, Bool.and_true, Bool.true_and, Bool.and_false, Bool.false_and, not_true_eq_false, not_false_eq_true]
        · rw [h3]
          have : decide (last < l[k] ∧ l[k] < (ns.length : Int)) = false := by simp; omega
          rw [this, Bool.false_and]
      have k1 : decide (l[k] < 0) = false := by simp; omega
      by_cases n1 : l[k] ≥ (nq.2.1 : Int)
      · have k2 : decide (l[k] ≥ (nq.2.1 : Int)) = true := by simp; omega
        refine ⟨.ret, (false, (k : Int)), x, ?_, .inr ⟨by simp, rfl, .inl ⟨rfl, rfl, ?_⟩⟩⟩
        · unfold g75_l2_b
          simp only [k0, i1, c1, k1, c0, k2, obs, asP_pointer, asB_bool, asI_int, asS_string, asSl_slice, asM_map, asTup0, asTup1, asTup2, asTup3, asTup4, asTup5, asTup6, asTup7, asTup8, asTup9, asAgg2, asAgg3, asAgg4, asAgg5, asAgg6, asAgg7, asAgg8, asAgg9, asAgg12, getD0, getD1, getD2, getD3, getD4, getD5, getD6, getD7, getD8, getD9, getD10, getD11, getD12, getD13, getD14, getD15, getD16, getD17, getD18, getD19, Bool.not_true, Bool.not_false, Bool.false_eq_true, Bool.true_eq_false, ↓reduceIte, decide_true, decide_false, Option.isNone_some, Option.isNone_none, Option.isSome_some, Option.isSome_none, beq_self_eq_true, bne_self_eq_false, Bool.and_true, Bool.true_and, Bool.and_false, Bool.false_and, not_true_eq_false, not_false_eq_true]
        · rw [h3]
          have : decide (last < l[k] ∧ l[k] < (ns.length : Int)) = false := by simp; omega
          rw [this, Bool.false_and]
      have k2 : decide (l[k] ≥ (nq.2.1 : Int)) = false := by simp; omega
      by_cases hk0 : k = 0
      · have hlast := h1 hk0
        have k3 : decide ((k : Int) > 0) = false := by simp; omega
        refine ⟨.normal, (false, ((k + 1 : Nat) : Int)), x, ?_, .inl ⟨rfl, rfl, l[k], rfl, by omega, by omega, fun _ => by simp [hk], ?_⟩⟩
        · unfold g75_l2_b
          simp only [k0, i1, c1, k1, c0, k2, k3, hw, obs, asP_pointer, asB_bool, asI_int, asS_string, asSl_slice, asM_map, asTup0, asTup1, asTup2, asTup3, asTup4, asTup5, asTup6, asTup7, asTup8, asTup9, asAgg2, asAgg3, asAgg4, asAgg5, asAgg6, asAgg7, asAgg8, asAgg9, asAgg12, getD0, getD1, getD2, getD3, getD4, getD5, getD6, getD7, getD8, getD9, getD10, getD11, getD12, getD13, getD14, getD15, getD16, getD17, getD18, getD19, Bool.not_true, Bool.not_false, Bool.false_eq_true, Bool.true_eq_false, ↓reduceIte, decide_true, decide_false, Option.isNone_some, Option.isNone_none, Option.isSome_some, Option.isSome_none, beq_self_eq_true, bne_self_eq_false, Bool.and_true, Bool.true_and, Bool.and_false, Bool.false_and, not_true_eq_false, not_false_eq_true]
        · rw [h3]
          have : decide (last < l[k] ∧ l[k] < (ns.length : Int)) = true := by simp; omega
          rw [this, Bool.true_and]
      · have k3 : decide ((k : Int) > 0) = true := by simp; omega
        have h2' := h2 (by omega)
        obtain ⟨a2, i2, c2⟩ := hu.get (i := k - 1) (by omega)
        have hl2 : l[k - 1] = last := by
          rw [List.getElem?_eq_getElem (by omega)] at h2'
          simpa using h2'
        rw [hl2] at c2
        have hw2 : IntKind.i64.wrap ((k : Int) - 1) = ((k - 1 : Nat) : Int) := by rw [wrap_i64 (by omega) (by omega)]; omega
        by_cases n2 : last ≥ l[k]
        · have k4 : decide (last ≥ l[k]) = true := by simp; omega
          refine ⟨.ret, (false, (k : Int)), x, ?_, .inr ⟨by simp, rfl, .inl ⟨rfl, rfl, ?_⟩⟩⟩
          · unfold g75_l2_b
            simp only [k0, i1, c1, k1, c0, k2, k3, hw2, i2, c2, k4, obs, asP_pointer, asB_bool, asI_int, asS_string, asSl_slice, asM_map, asTup0, asTup1, asTup2, asTup3, asTup4, asTup5, asTup6, asTup7, asTup8, asTup9, asAgg2, asAgg3, asAgg4, asAgg5, asAgg6, asAgg7, asAgg8, asAgg9, asAgg12, getD0, getD1, getD2, getD3, getD4, getD5, getD6, getD7, getD8, getD9, getD10, getD11, getD12, getD13, getD14, getD15, getD16, getD17, getD18, getD19, Bool.not_true, Bool.not_false, Bool.false_eq_true, Bool.true_eq_false, ↓reduceIte, decide_true, decide_false, Option.isNone_some, Option.isNone_none, Option.isSome_some, Option.isSome_none, beq_self_eq_true, bne_self_eq_false, Bool.and_true, Bool.true_and, Bool.and_false, Bool.false_and, not_true_eq_false, not_false_eq_true]
          · rw [h3]
            have : decide (last < l[k] ∧ l[k] < (ns.length : Int)) = false := by simp; omega
            rw [this, Bool.false_and]
        · have k4 : decide (last ≥ l[k]) = false := by simp; omega
          refine ⟨.normal, (false, ((k + 1 : Nat) : Int)), x, ?_, .inl ⟨rfl, rfl, l[k], rfl, by omega, by omega, fun _ => by simp [hk], ?_⟩⟩
          · unfold g75_l2_b
            simp only [k0, i1, c1, k1, c0, k2, k3, hw2, i2, c2, k4, hw, obs, asP_pointer, asB_bool, asI_int, asS_string, asSl_slice, asM_map, asTup0, asTup1, asTup2, asTup3, asTup4, asTup5, asTup6, asTup7, asTup8, asTup9, asAgg2, asAgg3, asAgg4, asAgg5, asAgg6, asAgg7, asAgg8, asAgg9, asAgg12, getD0, getD1, getD2, getD3, getD4, getD5, getD6, getD7, getD8, getD9, getD10, getD11, getD12, getD13, getD14, getD15, getD16, getD17, getD18, getD19, Bool.not_true, Bool.not_false, Bool.false_eq_true, Bool.true_eq_false, ↓reduceIte, decide_true, decide_false, Option.isNone_some, Option.isNone_none, Option.isSome_some, Option.isSome_none, beq_self_eq_true, bne_self_eq_false, Bool.and_true, Bool.true_and, Bool.and_false, Bool.false_and, not_true_eq_false, not_false_eq_true]
          · rw [h3]
            have : decide (last < l[k] ∧ l[k] < (ns.length : Int)) = true := by simp; omega
            rw [this, Bool.true_and])
    (fun s x ⟨hx, last, hs, _, _, _, h3⟩ => by
      subst hs hx
      rw [List.drop_length] at h3
      refine ⟨.exit 0, (false, (l.length : Int)), x, ?_, by simp, rfl, .inr ⟨rfl, h3⟩⟩
      have k0 : decide ((l.length : Int) < (q.2.1 : Int)) = false := by simp; omega
      unfold g75_l2_b
      simp only [k0, Bool.false_eq_true, if_false]) (k := 0) (s := (false, 0)) (w := w) (Nat.zero_le _) ⟨rfl, -1, rfl, by omega, fun _ => rfl, fun h => absurd h (by omega), rfl⟩
  rcases hQ with ⟨rfl, h1, h2⟩ | ⟨rfl, h2⟩
  · refine g75_call ?_
    have : decide (sortedI ns.length l) = false := decide_eq_false (fun hh => by rw [hh.2] at h2; cases h2)
    rw [this]
    unfold g75
    rw [g75_l2_ret_of g1, g75_l2_ret, h1]
  · refine g75_call ?_
    have : decide (sortedI ns.length l) = decide ((q.2.1 : Int) > 0) := by
      refine decide_eq_decide.mpr ⟨fun hh => ?_, fun hh => ⟨?_, h2⟩⟩
      · have := List.length_pos_iff.mpr hh.1; omega
      · exact List.length_pos_iff.mp (by omega)
    rw [this]
    unfold g75
    rw [g75_l2_x0_of g1, g75_l2_x0]

/-! ## a partition's cells, by its entry -/
theorem Raw.get {e : PE} {k : Nat} (h : Raw w D b c nq pq ns (es.set k e) next count) (hk : k < es.length) {g o : Nat} (ha : idxA pq.1 pq.2.1 6 (k : Int) = some ⟨g, o, none⟩) {j : Nat} (hj : j < 6) : w.cell? ⟨g, o + j, none⟩ = (e.cs)[j]? := by
  have hk1 : k < (es.set k e).length := by simpa using hk
  have := h.part_cell hk1 ha hj
  rwa [show (es.set k e)[k] = e by simp] at this
theorem Raw.okAt {e : PE} {k : Nat} (h : Raw w D b c nq pq ns (es.set k e) next count) (hk : k < es.length) : PeOk w D e := by
  have hk1 : k < (es.set k e).length := by simpa using hk
  have := h.ok _ (List.getElem_mem hk1)
  rwa [show (es.set k e)[k] = e by simp] at this
theorem Raw.put {e : PE} {k : Nat} (h : Raw w D b c nq pq ns (es.set k e) next count) (hk : k < es.length) {g o : Nat} (ha : idxA pq.1 pq.2.1 6 (k : Int) = some ⟨g, o, none⟩) {j : Nat} (hj : j < 6) {D' : Nat → Prop} (e' : PE) (v : Value) (hv : v.oneCell' = true) (he : e'.cs = e.cs.set j v) (hD : ∀ y, D y → D' y) (ok' : PeOk w D' e') (lt' : ∀ y, D' y → y < w.heap.size) :
    ∃ w', st1 w ⟨g, o + j, none⟩ v = some w' ∧ Raw w' D' b c nq pq ns (es.set k e') next count ∧ Fr (blkOf pq) w w' := by
  have hk1 : k < (es.set k e).length := by simpa using hk
  have hget : (es.set k e)[k] = e := by simp
  obtain ⟨w', s, R, f⟩ := h.part_put hk1 ha hj e' v hv (by rw [hget]; exact he) hD ok' lt'
  rw [List.set_set] at R
  exact ⟨w', s, R, f⟩
theorem Raw.elect {e : PE} {k : Nat} (h : Raw w D b c nq pq ns (es.set k e) next count) (hk : k < es.length) {g o : Nat} (ha : idxA pq.1 pq.2.1 6 (k : Int) = some ⟨g, o, none⟩) (hn : Names ns e.v.isr) :
    ∃ w', callF Try.prog 71 #[.pointer (some ⟨b, 0, none⟩), .pointer (some ⟨g, o, none⟩)] w = some (.tuple #[], w') ∧ Raw w' D b c nq pq ns (es.set k { e with v := electV ns e.v }) next count ∧ Fr (blkOf pq) w w' := by
  have hk1 : k < (es.set k e).length := by simpa using hk
  have hget : (es.set k e)[k] = e := by simp
  obtain ⟨w', s, R, f⟩ := elect71 h hk1 ha (by rw [hget]; exact hn)
  rw [List.set_set, hget] at R
  exact ⟨w', s, R, f⟩
theorem Raw.grow {e : PE} {k : Nat} {D' : Nat → Prop} (h : Raw w D b c nq pq ns (es.set k e) next count) (hD : ∀ y, D y → D' y) (lt' : ∀ y, D' y → y < w.heap.size) : Raw w D' b c nq pq ns (es.set k e) next count :=
  ⟨h.tbl, h.nd, h.pt, h.ct, fun e he => (h.ok e he).fr (Fr.refl [] _) (by simp) hD, hD _ h.rb, hD _ h.rc, fun y hy => hD _ (h.rn y hy), fun y hy => hD _ (h.rp y hy), lt'⟩

def settleV (ns : List NV) (v : PV) : PV :=
  if v.tgt = [] then v else if ∀ n ∈ v.tgt, n ∈ v.isr then (if v.ld ∈ v.tgt then { v with rep := v.tgt, isr := v.tgt, tgt := [], vr := IntKind.i64.wrap (v.vr + 1) } else electV ns { v with rep := v.tgt, isr := v.tgt, tgt := [], vr := IntKind.i64.wrap (v.vr + 1) }) else v

theorem chgP {D D' : Nat → Prop} {w w' : World} {S : List Nat} (f : Fr S w w') (hS : ∀ y ∈ S, y < w.heap.size → D y) (hD : ∀ y, D y → D' y) (hn : ∀ y, D' y → D y ∨ w.heap.size ≤ y) : Chg D w w' D' :=
  ⟨⟨S.filter (· < w.heap.size), fr_old f, fun y hy => by simp at hy; exact hS y hy.1 hy.2⟩, hD, hn⟩

theorem settle76 {e : PE} {k : Nat} (h : Raw w D b c nq pq ns (es.set k e) next count) (hk : k < es.length) {g o : Nat} (ha : idxA pq.1 pq.2.1 6 (k : Int) = some ⟨g, o, none⟩) (hn : Names ns e.v.tgt) :
    ∃ D' e' w', callF Try.prog 76 #[.pointer (some ⟨b, 0, none⟩), .pointer (some ⟨g, o, none⟩)] w = some (.tuple #[], w') ∧ e'.v = settleV ns e.v ∧ Raw w' D' b c nq pq ns (es.set k e') next count ∧ Chg D w w' D' := by
  have hok := h.okAt hk
  have c5 : w.cell? ⟨g, o + 5, none⟩ = some (.slice e.qt.1 e.qt.2.1 e.qt.2.2) := h.get hk ha (j := 5) (by decide)
  have c3 : w.cell? ⟨g, o + 3, none⟩ = some (.slice e.qi.1 e.qi.2.1 e.qi.2.2) := h.get hk ha (j := 3) (by decide)
  have htl := hok.ot.len
  have hil := hok.oi.len
  simp only [intsV', List.length_map, Nat.mul_one] at htl hil
  have hlen := hok.len
  by_cases ht : e.v.tgt = []
  · have k0 : ((e.qt.2.1 : Int) == 0) = true := by rw [ht] at htl; simp at htl ⊢; omega
    refine ⟨D, e, w, g76_call ?_, by unfold settleV; rw [if_pos ht], h, Chg.refl _ _⟩
    unfold g76
    simp only [addr_add, c5, k0, obs, asP_pointer, asB_bool, asI_int, asS_string, asSl_slice, asM_map, asTup0, asTup1, asTup2, asTup3, asTup4, asTup5, asTup6, asTup7, asTup8, asTup9, asAgg2, asAgg3, asAgg4, asAgg5, asAgg6, asAgg7, asAgg8, asAgg9, asAgg12, getD0, getD1, getD2, getD3, getD4, getD5, getD6, getD7, getD8, getD9, getD10, getD11, getD12, getD13, getD14, getD15, getD16, getD17, getD18, getD19, Bool.not_true, Bool.not_false, Bool.false_eq_true, Bool.true_eq_false, ↓reduceIte, decide_true, decide_false, Option.isNone_some, Option.isNone_none, Option.isSome_some, Option.isSome_none, beq_self_eq_true, bne_self_eq_false, Bool.and_true, Bool.true_and, Bool.and_false, Bool.false_and, not_true_eq_false, not_false_eq_true]
  have hpos : 0 < e.v.tgt.length := List.length_pos_iff.mpr ht
  have k0 : ((e.qt.2.1 : Int) == 0) = false := by simp; omega
  have beg : ∀ r, g76_l9 (some ⟨b, 0, none⟩) (some ⟨g, o, none⟩) e.qt 0 w = some r → callF Try.prog 76 #[.pointer (some ⟨b, 0, none⟩), .pointer (some ⟨g, o, none⟩)] w = some r := by
    intro r hr
    refine g76_call ?_
    unfold g76
    simp only [addr_add, c5, k0, obs, asP_pointer, asB_bool, asI_int, asS_string, asSl_slice, asM_map, asTup0, asTup1, asTup2, asTup3, asTup4, asTup5, asTup6, asTup7, asTup8, asTup9, asAgg2, asAgg3, asAgg4, asAgg5, asAgg6, asAgg7, asAgg8, asAgg9, asAgg12, getD0, getD1, getD2, getD3, getD4, getD5, getD6, getD7, getD8, getD9, getD10, getD11, getD12, getD13, getD14, getD15, getD16, getD17, getD18, getD19, Bool.not_true, Bool.not_false, Bool.false_eq_true, Bool.true_eq_false, ↓reduceIte, decide_true, decide_false, Option.isNone_some, Option.isNone_none, Option.isSome_some, Option.isSome_none, beq_self_eq_true, bne_self_eq_false, Bool.and_true, Bool.true_and, Bool.and_false, Bool.false_and, not_true_eq_false, not_false_eq_true]
    exact hr
  obtain ⟨ex, t, w1, g1, rfl, hQ⟩ := loopS_rule (b := g76_l9_b e.qt (some ⟨g, o, none⟩) (some ⟨b, 0, none⟩)) (I := fun j s x => s = (j : Int) ∧ x = w ∧ ∀ n ∈ e.v.tgt.take j, n ∈ e.v.isr)
    (Q := fun ex s x => x = w ∧ (ex = .ret ∧ ¬ (∀ n ∈ e.v.tgt, n ∈ e.v.isr) ∨ ex = .exit 0 ∧ ∀ n ∈ e.v.tgt, n ∈ e.v.isr)) (n := e.v.tgt.length)
    (fun j s x hj ⟨hs, hx, hin⟩ => by
      subst hs hx
      obtain ⟨a, i1, ci⟩ := hok.ot.slC.get (i := j) (by simpa using hj)
      have ci' : x.cell? a = some (.int .i64 e.v.tgt[j]) := by rw [ci]; simp
      have e1 := contains32 hok.oi.slC (by omega) e.v.tgt[j]
      have k1 : decide ((j : Int) < (e.qt.2.1 : Int)) = true := by simp; omega
      have hw := wrap_succ (n := j) (by omega)
      by_cases hm : e.v.tgt[j] ∈ e.v.isr
      · have k2 : decide (e.v.tgt[j] ∈ e.v.isr) = true := by simp [hm]
        refine ⟨.normal, ((j + 1 : Nat) : Int), x, ?_, .inl ⟨rfl, rfl, rfl, fun n hn' => ?_⟩⟩
        · unfold g76_l9_b
          simp only [k1, i1, ci', addr_add, c3, e1, k2, hw, obs, asP_pointer, asB_bool, asI_int, asS_string, asSl_slice, asM_map, asTup0, asTup1, asTup2, asTup3, asTup4, asTup5, asTup6, asTup7, asTup8, asTup9, asAgg2, asAgg3, asAgg4, asAgg5, asAgg6, asAgg7, asAgg8, asAgg9, asAgg12, getD0, getD1, getD2, getD3, getD4, getD5, getD6, getD7, getD8, getD9, getD10, getD11, getD12, getD13, getD14, getD15, getD16, getD17, getD18, getD19, Bool.not_true, Bool.not_false, Bool.false_eq_true, Bool.true_eq_false, ↓reduceIte, decide_true, decide_false, Option.isNone_some, Option.isNone_none, Option.isSome_some, Option.isSome_none, beq_self_eq_true, bne_self_eq_false, Bool.and_true, Bool.true_and, Bool.and_false, Bool.false_and, not_true_eq_false, not_false_eq_true]
        · rw [List.take_succ_eq_append_getElem hj] at hn'
          rcases List.mem_append.mp hn' with hn' | hn'
          · exact hin n hn'
          · simp only [List.mem_singleton] at hn'; rw [hn']; exact hm
      · have k2 : decide (e.v.tgt[j] ∈ e.v.isr) = false := by simp [hm]
        refine ⟨.ret, (j : Int), x, ?_, .inr ⟨by simp, rfl, .inl ⟨rfl, fun hh => hm (hh _ (List.getElem_mem hj))⟩⟩⟩
        unfold g76_l9_b
        simp only [k1, i1, ci', addr_add, c3, e1, k2, obs, asP_pointer, asB_bool, asI_int, asS_string, asSl_slice, asM_map, asTup0, asTup1, asTup2, asTup3, asTup4, asTup5, asTup6, asTup7, asTup8, asTup9, asAgg2, asAgg3, asAgg4, asAgg5, asAgg6, asAgg7, asAgg8, asAgg9, asAgg12, getD0, getD1, getD2, getD3, getD4, getD5, getD6, getD7, getD8, getD9, getD10, getD11, getD12, getD13, getD14, getD15, getD16, getD17, getD18, getD19, Bool.not_true, Bool.not_false, Bool.false_eq_true, Bool.true_eq_false, ↓reduceIte, decide_true, decide_false, Option.isNone_some, Option.isNone_none, Option.isSome_some, Option.isSome_none, beq_self_eq_true, bne_self_eq_false, Bool.and_true, Bool.true_and, Bool.and_false, Bool.false_and, not_true_eq_false, not_false_eq_true])
    (fun s x ⟨hs, hx, hin⟩ => by
      subst hs hx
      rw [List.take_length] at hin
      refine ⟨.exit 0, (e.v.tgt.length : Int), x, ?_, by simp, rfl, .inr ⟨rfl, hin⟩⟩
      have k1 : decide ((e.v.tgt.length : Int) < (e.qt.2.1 : Int)) = false := by simp; omega
      unfold g76_l9_b
      simp only [k1, Bool.false_eq_true, if_false]) (k := 0) (s := 0) (w := w) (Nat.zero_le _) ⟨rfl, rfl, by simp⟩
  rcases hQ with ⟨rfl, hno⟩ | ⟨rfl, hall⟩
  · refine ⟨D, e, w1, beg _ ?_, by unfold settleV; rw [if_neg ht, if_neg hno], h, Chg.refl _ _⟩
    rw [g76_l9_ret_of g1, g76_l9_ret]
  -- the move ends
  have fd := Fr.drew [] w1
  have hd := h.fr fd (by simp)
  have d5 : w1.drew.cell? ⟨g, o + 5, none⟩ = some (.slice e.qt.1 e.qt.2.1 e.qt.2.2) := hd.get hk ha (j := 5) (by decide)
  have hokd := hd.okAt hk
  obtain ⟨q1, w2, e2, o2, f2, n2⟩ := clone36 hokd.ot.slC (fun hn => (hokd.ot.empty hn).2.1) (by omega)
  have R2 := hd.fr f2 (by simp)
  have p5 : w2.cell? ⟨g, o + 5, none⟩ = some (.slice e.qt.1 e.qt.2.1 e.qt.2.2) := R2.get hk ha (j := 5) (by decide)
  have ok2 := R2.okAt hk
  have z1 : w1.drew.heap.size = w1.heap.size := rfl
  let D' : Nat → Prop := fun y => D y ∨ y ∈ blkOf q1
  have hDD : ∀ y, D y → D' y := fun y hy => .inl hy
  have lt2 : ∀ y, D' y → y < w2.heap.size := fun y hy => by
    rcases hy with hy | hy
    · exact R2.lt y hy
    · exact o2.lt y hy
  have R2' := R2.grow hDD lt2
  have ok2' := R2'.okAt hk
  have nq : ∀ y ∈ blkOf q1, y ∉ blkOf pq := fun y hy hm => by have := n2 y hy; have := h.lt y (h.rp y hm); omega
  obtain ⟨w3, s3, R3, f3⟩ := R2'.put hk ha (j := 4) (by decide) (D' := D') { e with v := { e.v with rep := e.v.tgt }, qr := e.qt } (.slice e.qt.1 e.qt.2.1 e.qt.2.2) rfl rfl (fun _ => id) ⟨ok2'.oi, ok2'.ot, ok2'.ot, ⟨ok2'.reg.1, ok2'.reg.2.2, ok2'.reg.2.2⟩, ⟨hlen.1, hlen.2.2, hlen.2.2⟩⟩ lt2
  have ok3 := R3.okAt hk
  have o3 := o2.fr f3 nq
  obtain ⟨w4, s4, R4, f4⟩ := R3.put hk ha (j := 3) (by decide) (D' := D') { e with v := { e.v with rep := e.v.tgt, isr := e.v.tgt }, qr := e.qt, qi := q1 } (.slice q1.1 q1.2.1 q1.2.2) rfl rfl (fun _ => id) ⟨o3, ok3.or_, ok3.ot, ⟨fun y hy => .inr hy, ok3.reg.2.1, ok3.reg.2.2⟩, ⟨hlen.2.2, hlen.2.2, hlen.2.2⟩⟩ R3.lt
  have ok4 := R4.okAt hk
  obtain ⟨w5, s5, R5, f5⟩ := R4.put hk ha (j := 5) (by decide) (D' := D') { e with v := { e.v with rep := e.v.tgt, isr := e.v.tgt, tgt := [] }, qr := e.qt, qi := q1, qt := nl } (.slice none 0 0) rfl rfl (fun _ => id) ⟨ok4.oi, ok4.or_, Own.nil _ _ _, ⟨ok4.reg.1, ok4.reg.2.1, by simp [blkOf, nl]⟩, ⟨hlen.2.2, hlen.2.2, Nat.zero_le _⟩⟩ R4.lt
  have ok5 := R5.okAt hk
  have r2 : w5.cell? ⟨g, o + 2, none⟩ = some (.int .i64 e.v.vr) := R5.get hk ha (j := 2) (by decide)
  obtain ⟨w6, s6, R6, f6⟩ := R5.put hk ha (j := 2) (by decide) (D' := D') { e with v := { e.v with rep := e.v.tgt, isr := e.v.tgt, tgt := [], vr := IntKind.i64.wrap (e.v.vr + 1) }, qr := e.qt, qi := q1, qt := nl } (.int .i64 (IntKind.i64.wrap (e.v.vr + 1))) rfl rfl (fun _ => id) ⟨ok5.oi, ok5.or_, ok5.ot, ok5.reg, ok5.len⟩ R5.lt
  have fd6 := Fr.drew [] w6
  have R7 := R6.fr fd6 (by simp)
  have ok7 := R7.okAt hk
  have t3 : w6.drew.cell? ⟨g, o + 3, none⟩ = some (.slice q1.1 q1.2.1 q1.2.2) := R7.get hk ha (j := 3) (by decide)
  have t0 : w6.drew.cell? ⟨g, o, none⟩ = some (.int .i64 e.v.ld) := R7.get hk ha (j := 0) (by decide)
  have e7 := contains32 ok7.oi.slC (by show e.v.tgt.length < _; omega) e.v.ld
  have f16 : Fr (blkOf pq) w1 w6 := (((((Fr.mono (Fr.app fd f2) (by have z0_ := Fr.size fd; have z1_ := Fr.size f2; intro y_ hy_ hl_; grind [blkOf])) : Fr [] w1 w2).app f3).app f4).app f5 |>.app f6).mono (by intro y hy _; simpa using hy)
  have f17 : Fr (blkOf pq) w1 w6.drew := (f16.app fd6).mono (by intro y hy _; simpa using hy)
  have hnew : ∀ y, D' y → D y ∨ w1.heap.size ≤ y := fun y hy => by
    rcases hy with hy | hy
    · exact .inl hy
    · have := n2 y hy; exact .inr (by omega)
  -- what follows the order of the two readings is one
  have tail : ∀ r, (if (!decide (e.v.ld ∈ e.v.tgt)) = true then (callF Try.prog 71 #[.pointer (some ⟨b, 0, none⟩), .pointer (some ⟨g, o, none⟩)] w6.drew).bind fun r81 => (asTup 0 r81.1).bind fun _ => some (.tuple #[], r81.2) else some (.tuple #[], w6.drew)) = some r → callF Try.prog 76 #[.pointer (some ⟨b, 0, none⟩), .pointer (some ⟨g, o, none⟩)] w1 = some r := by
    intro r hr
    refine beg _ ?_
    have hj : g76_j47 (some ⟨g, o, none⟩) (some ⟨b, 0, none⟩) t w1 (e.qt.1, e.qt.2.1, e.qt.2.2) (q1.1, q1.2.1, q1.2.2) w2 = some r := by
      unfold g76_j47
      simp only [addr_add, s3, s4, s5, r2, s6, t3, t0, e7, obs, asP_pointer, asB_bool, asI_int, asS_string, asSl_slice, asM_map, asTup0, asTup1, asTup2, asTup3, asTup4, asTup5, asTup6, asTup7, asTup8, asTup9, asAgg2, asAgg3, asAgg4, asAgg5, asAgg6, asAgg7, asAgg8, asAgg9, asAgg12, getD0, getD1, getD2, getD3, getD4, getD5, getD6, getD7, getD8, getD9, getD10, getD11, getD12, getD13, getD14, getD15, getD16, getD17, getD18, getD19, Bool.not_true, Bool.not_false, Bool.false_eq_true, Bool.true_eq_false, ↓reduceIte, decide_true, decide_false, Option.isNone_some, Option.isNone_none, Option.isSome_some, Option.isSome_none, beq_self_eq_true, bne_self_eq_false, Bool.and_true, Bool.true_and, Bool.and_false, Bool.false_and, not_true_eq_false, not_false_eq_true]
      exact hr
    rw [g76_l9_x0_of g1]
    unfold g76_l9_x0
    simp only [addr_add, d5, e2, p5, hj, ite_self, obs, asP_pointer, asB_bool, asI_int, asS_string, asSl_slice, asM_map, asTup0, asTup1, asTup2, asTup3, asTup4, asTup5, asTup6, asTup7, asTup8, asTup9, asAgg2, asAgg3, asAgg4, asAgg5, asAgg6, asAgg7, asAgg8, asAgg9, asAgg12, getD0, getD1, getD2, getD3, getD4, getD5, getD6, getD7, getD8, getD9, getD10, getD11, getD12, getD13, getD14, getD15, getD16, getD17, getD18, getD19, Bool.not_true, Bool.not_false, Bool.false_eq_true, Bool.true_eq_false, ↓reduceIte, decide_true, decide_false, Option.isNone_some, Option.isNone_none, Option.isSome_some, Option.isSome_none, beq_self_eq_true, bne_self_eq_false, Bool.and_true, Bool.true_and, Bool.and_false, Bool.false_and, not_true_eq_false, not_false_eq_true]
  have hv : settleV ns e.v = if e.v.ld ∈ e.v.tgt then { e.v with rep := e.v.tgt, isr := e.v.tgt, tgt := [], vr := IntKind.i64.wrap (e.v.vr + 1) } else electV ns { e.v with rep := e.v.tgt, isr := e.v.tgt, tgt := [], vr := IntKind.i64.wrap (e.v.vr + 1) } := by
    unfold settleV; rw [if_neg ht, if_pos hall]
  rw [hv]
  by_cases hld : e.v.ld ∈ e.v.tgt
  · have kl : decide (e.v.ld ∈ e.v.tgt) = true := by simp [hld]
    rw [if_pos hld]
    refine ⟨D', _, w6.drew, tail _ (by rw [kl]; rfl), rfl, R7, chgP f17 (fun y hy _ => h.rp y hy) hDD hnew⟩
  · have kl : decide (e.v.ld ∈ e.v.tgt) = false := by simp [hld]
    rw [if_neg hld]
    obtain ⟨w8, e8, R8, f8⟩ := R7.elect hk ha (by exact hn)
    refine ⟨D', _, w8, tail _ (by rw [kl]; simp only [e8, obs, asP_pointer, asB_bool, asI_int, asS_string, asSl_slice, asM_map, asTup0, asTup1, asTup2, asTup3, asTup4, asTup5, asTup6, asTup7, asTup8, asTup9, asAgg2, asAgg3, asAgg4, asAgg5, asAgg6, asAgg7, asAgg8, asAgg9, asAgg12, getD0, getD1, getD2, getD3, getD4, getD5, getD6, getD7, getD8, getD9, getD10, getD11, getD12, getD13, getD14, getD15, getD16, getD17, getD18, getD19, Bool.not_true, Bool.not_false, Bool.false_eq_true, Bool.true_eq_false, ↓reduceIte, decide_true, decide_false, Option.isNone_some, Option.isNone_none, Option.isSome_some, Option.isSome_none, beq_self_eq_true, bne_self_eq_false, Bool.and_true, Bool.true_and, Bool.and_false, Bool.false_and, not_true_eq_false, not_false_eq_true]), rfl, R8, chgP (f17.trans f8) (fun y hy _ => h.rp y hy) hDD hnew⟩
end
end Go.Proofs.Ytjcenfgmpbeldaa
