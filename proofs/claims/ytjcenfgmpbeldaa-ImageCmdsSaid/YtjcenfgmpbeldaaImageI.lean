/-
  ImageI: lemmas on what Go functions of this seat come to (for whatever arguments, as each says). No condition but those that stand in each lemma.
-/
import Derived.Test.YtjcenfgmpbeldaaImageH
namespace Go.Proofs.Ytjcenfgmpbeldaa
open Go Go.Ev
set_option maxRecDepth 100000
set_option linter.unusedVariables false
set_option linter.unusedSimpArgs false

theorem own_lt' {w : World} {e : TypeId} {n : Nat} {v : Sh} {xs : List Value} (h : Own w e n v xs) : ∀ y ∈ blkOf v, y < w.heap.size := by
  intro y hy
  rcases h.at_ with ⟨h1, _⟩ | ⟨g, off, cur, h1, h2, _⟩
  · simp [blkOf, h1] at hy
  · simp [blkOf, h1] at hy
    subst hy
    exact lt_of_blk h2

/-- the nodes of a new partition, as they are counted -/
def onR (n c k : Nat) : List Int := (List.range c).map fun i => (((k + i) % n : Nat) : Int)
def newPart (n c k : Nat) : PV := ⟨-1, 0, 0, isort (onR n c k), isort (onR n c k), []⟩

theorem t77 : TSl Try.prog 77 30 6 96 := tsl_of Try.underlying77 (by kernel_rfl)

theorem new_in {x w11 : World} {n c k : Nat} (u1 : Int) (hn : 1 ≤ n ∧ n ≤ 5) (hc : c ≤ 5) (hk : k < 100) :
    ∃ q x', loopS (g11_l18_b (c : Int) (n : Int) (k : Int) w11 u1) ((none, 0, 0), 0) x = some (.exit 2, (q, (c : Int)), x') ∧ Own x' 3 1 q (intsV' (onR n c k)) ∧ Fr [] x x' ∧ ∀ y ∈ blkOf q, x.heap.size ≤ y := by
  have hml : maxLen = 9223372036854775807 := by decide
  obtain ⟨t, x', g1, q, rfl, o, f, hq⟩ := loopS_countX 2 (b := g11_l18_b (c : Int) (n : Int) (k : Int) w11 u1) (I := fun i s y => ∃ q : Sh, s = (q, (i : Int)) ∧ Own y 3 1 q (intsV' (onR n i k)) ∧ Fr [] x y ∧ ∀ z ∈ blkOf q, x.heap.size ≤ z) (n := c)
    (fun i s y hi ⟨q, hs, ho, hf, hq⟩ => by
      subst hs
      have hol := ho.len
      simp only [intsV', onR, List.length_map, List.length_range] at hol
      have hw := wrap_succ (n := i) (by omega)
      have hki : IntKind.i64.wrap ((k : Int) + (i : Int)) = ((k + i : Nat) : Int) := by rw [wrap_i64 (by omega) (by omega)]; omega
      have htm : Int.tmod ((k + i : Nat) : Int) (n : Int) = (((k + i) % n : Nat) : Int) := by rw [Int.tmod_eq_emod_of_nonneg (by omega)]; simp
      have k0 : decide ((i : Int) < (c : Int)) = true := by simp; omega
      have k1 : ¬ ((n : Int) = 0) := by omega
      obtain ⟨q2, y2, e2, o2, f2, n2, m2⟩ := app_one t28 ho (ys := [.int .i64 (((k + i) % n : Nat) : Int)]) rfl (by intro y hy; simp at hy; subst hy; rfl) (by omega) (by omega) 28 #[false, false]
      refine ⟨(q2, ((i + 1 : Nat) : Int)), y2, ?_, q2, rfl, ?_, (hf.app f2).mono (by intro z hz hl; simp at hz; have := hq z hz; omega), fun z hz => ?_⟩
      · unfold g11_l18_b
        simp only [k0, if_true]
        rw [if_neg k1, hki, htm]
        simp only [e2, hw, obs, asP_pointer, asB_bool, asI_int, asS_string, asSl_slice, asM_map, asTup0, asTup1, asTup2, asTup3, asTup4, asTup5, asTup6, asTup7, asTup8, asTup9, asAgg2, asAgg3, asAgg4, asAgg5, asAgg6, asAgg7, asAgg8, asAgg9, asAgg12, getD0, getD1, getD2, getD3, getD4, getD5, getD6, getD7, getD8, getD9, getD10, getD11, getD12, getD13, getD14, getD15, getD16, getD17, getD18, getD19, Bool.not_true, Bool.not_false, Bool.false_eq_true, Bool.true_eq_false, ↓reduceIte, decide_true, decide_false, Option.isNone_some, Option.isNone_none, Option.isSome_some, Option.isSome_none, beq_self_eq_true, bne_self_eq_false, Bool.and_true, Bool.true_and, Bool.and_false, Bool.false_and, not_true_eq_false, not_false_eq_true]
      · have e : intsV' (onR n (i + 1) k) = intsV' (onR n i k) ++ [.int .i64 (((k + i) % n : Nat) : Int)] := by simp [intsV', onR, List.range_succ]
        rw [e]; exact o2
      · have := hf.size
        rcases n2 z hz with hh | hh
        · exact hq z hh
        · omega)
    (fun i y ⟨q, hs, _⟩ => by
      subst hs
      unfold g11_l18_b
      simp) (k := 0) (s := ((none, 0, 0), 0)) (w := x) (Nat.zero_le _) ⟨(none, 0, 0), rfl, Own.nil _ _ _, Fr.refl _ _, by simp [blkOf]⟩
  exact ⟨q, x', g1, o, f, hq⟩

theorem new_x2 {W x w11 : World} {D : Nat → Prop} {c : Nat} {nq pq q : Sh} {ns : List NV} {es : List PE} {n cp k : Nat} {next count : Int} (u1 t2 : Int) (hR : Raw x D w11.heap.size c nq pq ns es next count) (hn : 1 ≤ n ∧ n ≤ 5) (hc : cp ≤ 5) (hk : k < 100) (hel : es.length ≤ 100) (ho : Own x 3 1 q (intsV' (onR n cp k))) (hq : ∀ y ∈ blkOf q, ¬ D y ∧ W.heap.size ≤ y) (hW : Fr [] W x) (hD : ∀ y, D y → W.heap.size ≤ y) :
    ∃ D' pq' e x', g11_l18_x2 w11 (n : Int) (cp : Int) (k : Int) u1 (q, t2) x = some (.normal, ((k + 1 : Nat) : Int), x') ∧ Raw x' D' w11.heap.size c nq pq' ns (es ++ [e]) next count ∧ e.v = newPart n cp k ∧ Fr [] W x' ∧ (∀ y, D' y → W.heap.size ≤ y) := by
  have hml : maxLen = 9223372036854775807 := by decide
  have hw := wrap_succ (n := k) (by omega)
  have hol : (onR n cp k).length = cp := by simp [onR]
  obtain ⟨l', x1, e1, o1, f1, pm, ps⟩ := sort33s (w := x) (q := q) (l := onR n cp k) ho (by omega)
  have hl' := isort_of pm ps
  subst hl'
  have hil : (isort (onR n cp k)).length = cp := by rw [(isort_perm _).length_eq, hol]
  have R1 := hR.fr f1 (fun y hy _ => (hq y hy).1)
  have fd := Fr.drew [] x1
  have R2 := R1.fr fd (by simp)
  have o2 := o1.fr fd (by simp)
  obtain ⟨qc, x3, e3, o3, f3, n3⟩ := clone36 (w := x1.drew) (q := q) o2.slC (fun hh => (o2.empty hh).2.1) (by omega)
  have R3 := R2.fr f3 (by simp)
  have oq3 := o2.fr f3 (by simp)
  have lt2 := R2.lt
  obtain ⟨pe, hpe⟩ : ∃ pe : PE, pe = ⟨newPart n cp k, qc, q, (none, 0, 0)⟩ := ⟨_, rfl⟩
  have hcs : pe.cs = [.int .i64 (-1), .int .i64 0, .int .i64 0, .slice qc.1 qc.2.1 qc.2.2, .slice q.1 q.2.1 q.2.2, .slice none 0 0] := by rw [hpe]; rfl
  have hpl := R3.plen
  obtain ⟨pq', x4, e4, o4, f4, n4, m4⟩ := app_one t77 R3.pt (ys := pe.cs) (by rw [hcs]; rfl) (by rw [hcs]; intro y hy; simp at hy; rcases hy with rfl | rfl | rfl | rfl | rfl | rfl <;> rfl) (by omega) (by omega) 77 #[false, false]
  rw [hcs] at e4
  obtain ⟨a1, a2, a3, a4⟩ := R3.apP
  have tb4 := R3.tbl.fr f4 a1
  have s5 := tb4.st1 (i := 1) (v := .slice pq'.1 pq'.2.1 pq'.2.2) (by simp) rfl
  have tb5 : Blk (x4.setCell ⟨w11.heap.size, 1, none⟩ (.slice pq'.1 pq'.2.1 pq'.2.2)) w11.heap.size [.slice nq.1 nq.2.1 nq.2.2, .slice pq'.1 pq'.2.1 pq'.2.2, .pointer (some ⟨c, 0, none⟩), .int .i64 count] 79 := tb4.set 1 (.slice pq'.1 pq'.2.1 pq'.2.2)
  have f5 : Fr [w11.heap.size] x4 (x4.setCell ⟨w11.heap.size, 1, none⟩ (.slice pq'.1 pq'.2.1 pq'.2.2)) := Fr.setCell
  obtain ⟨x5, hx5⟩ : ∃ x5, x4.setCell ⟨w11.heap.size, 1, none⟩ (.slice pq'.1 pq'.2.1 pq'.2.2) = x5 := ⟨_, rfl⟩
  rw [hx5] at s5 tb5 f5
  have z1 := f1.size
  have z3 := f3.size
  have z4 := f4.size
  have z5 := f5.size
  have zW := hW.size
  have hdz : x1.drew.heap.size = x1.heap.size := rfl
  have ecat : ptCs es ++ pe.cs = ptCs (es ++ [pe]) := by simp [ptCs]
  rw [ecat] at o4
  have F45 : Fr (blkOf pq ++ [w11.heap.size]) x3 x5 := f4.app f5
  have lq := own_lt' oq3
  have lqc := own_lt' o3
  have lpq := own_lt' o4
  have ok5 : ∀ e ∈ es ++ [pe], PeOk x5 (fun y => D y ∨ y ∈ blkOf q ∨ y ∈ blkOf qc ∨ y ∈ blkOf pq') e := by
    have base : ∀ e ∈ es ++ [pe], PeOk x3 (fun y => D y ∨ y ∈ blkOf q ∨ y ∈ blkOf qc ∨ y ∈ blkOf pq') e := by
      intro e he
      rcases List.mem_append.mp he with he | he
      · exact (R3.ok e he).fr (Fr.refl [] x3) (by simp) (fun y hy => .inl hy)
      · simp only [List.mem_singleton] at he
        subst he
        rw [hpe]
        exact ⟨o3, oq3, Own.nil _ _ _, ⟨fun y hy => .inr (.inr (.inl hy)), fun y hy => .inr (.inl hy), by simp [blkOf]⟩, ⟨by show (isort (onR n cp k)).length ≤ _; omega, by show (isort (onR n cp k)).length ≤ _; omega, by simp [newPart]⟩⟩
    intro e he
    have hb := base e he
    refine hb.fr F45 (fun y hy => ?_) (fun _ => id)
    rcases List.mem_append.mp hy with hy | hy
    · exact a4 e hb y hy
    · simp only [List.mem_singleton] at hy
      subst hy
      exact ⟨R3.tbl.notin hb.oi (by decide), R3.tbl.notin hb.or_ (by decide), R3.tbl.notin hb.ot (by decide)⟩
  have hcb : c ≠ w11.heap.size := R3.ct.ne_blk R3.tbl (by decide)
  have R5 : Raw x5 (fun y => D y ∨ y ∈ blkOf q ∨ y ∈ blkOf qc ∨ y ∈ blkOf pq') w11.heap.size c nq pq' ns (es ++ [pe]) next count := by
    refine ⟨tb5, R3.nd.fr F45 (fun y hy hm => ?_), o4.fr f5 (fun y hy hm => ?_), R3.ct.fr F45 (fun hm => ?_), ok5, .inl R3.rb, .inl R3.rc, fun y hy => .inl (R3.rn y hy), fun y hy => .inr (.inr (.inr hy)), fun y hy => ?_⟩
    · rcases List.mem_append.mp hm with hm | hm
      · exact a3 y hm hy
      · simp only [List.mem_singleton] at hm; subst hm; exact R3.tbl.notin R3.nd (by decide) hy
    · simp only [List.mem_singleton] at hm; subst hm; exact tb4.notin o4 (by decide) hy
    · rcases List.mem_append.mp hm with hm | hm
      · exact a2 hm
      · simp only [List.mem_singleton] at hm; exact hcb hm
    · rcases hy with hy | hy | hy | hy
      · have := R3.lt y hy; omega
      · have := lq y hy; omega
      · have := lqc y hy; omega
      · have := lpq y hy; omega
  have rp3 := R3.rp
  have rb3 := R3.rb
  have FW : Fr [] W x5 := ((((hW.app f1).app fd).app f3).app F45).mono (by
    intro y hy hl
    simp only [List.nil_append, List.append_nil, List.mem_append, List.mem_singleton] at hy
    rcases hy with hy | hy | hy
    · have := (hq y hy).2; omega
    · have := hD y (rp3 y hy); omega
    · have := hD _ rb3; omega)
  refine ⟨_, pq', pe, x5, ?_, R5, by rw [hpe], FW, fun y hy => ?_⟩
  · have p2 : x1.drew.cell? ⟨w11.heap.size, 1, none⟩ = some (.slice pq.1 pq.2.1 pq.2.2) := R2.tbl.cell 1
    have p3 : x3.cell? ⟨w11.heap.size, 1, none⟩ = some (.slice pq.1 pq.2.1 pq.2.2) := R3.tbl.cell 1
    have fa : Fr [] x3 (x3.alloc (.cells #[.int .i64 (-1), .int .i64 0, .int .i64 0, .slice qc.1 qc.2.1 qc.2.2, .slice q.1 q.2.1 q.2.2, .slice none 0 0] 30)) := Fr.alloc _
    have p4 : (x3.alloc (.cells #[.int .i64 (-1), .int .i64 0, .int .i64 0, .slice qc.1 qc.2.1 qc.2.2, .slice q.1 q.2.1 q.2.2, .slice none 0 0] 30)).cell? ⟨w11.heap.size, 1, none⟩ = some (.slice pq.1 pq.2.1 pq.2.2) := (R3.tbl.fr fa (by simp)).cell 1
    have e4' : callB Try.prog .append #[77, 77] 77 #[false, false] #[.slice pq.1 pq.2.1 pq.2.2, .slice (some ⟨x3.heap.size, 0, none⟩) 1 1] (x3.alloc (.cells #[.int .i64 (-1), .int .i64 0, .int .i64 0, .slice qc.1 qc.2.1 qc.2.2, .slice q.1 q.2.1 q.2.2, .slice none 0 0] 30)) = some (.slice pq'.1 pq'.2.1 pq'.2.2, x4) := e4
    unfold g11_l18_x2
    simp only [e1, g11_j45, g11_j52, addr_add, Nat.zero_add, p2, e3, p3, p4, e4', s5, hw, ite_self, obs, asP_pointer, asB_bool, asI_int, asS_string, asSl_slice, asM_map, asTup0, asTup1, asTup2, asTup3, asTup4, asTup5, asTup6, asTup7, asTup8, asTup9, asAgg2, asAgg3, asAgg4, asAgg5, asAgg6, asAgg7, asAgg8, asAgg9, asAgg12, getD0, getD1, getD2, getD3, getD4, getD5, getD6, getD7, getD8, getD9, getD10, getD11, getD12, getD13, getD14, getD15, getD16, getD17, getD18, getD19, Bool.not_true, Bool.not_false, Bool.false_eq_true, Bool.true_eq_false, ↓reduceIte, decide_true, decide_false, Option.isNone_some, Option.isNone_none, Option.isSome_some, Option.isSome_none, beq_self_eq_true, bne_self_eq_false, Bool.and_true, Bool.true_and, Bool.and_false, Bool.false_and, not_true_eq_false, not_false_eq_true]
  · rcases hy with hy | hy | hy | hy
    · exact hD y hy
    · exact (hq y hy).2
    · have := n3 y hy; omega
    · rcases n4 y hy with hh | hh
      · exact hD y (rp3 y hh)
      · omega
end Go.Proofs.Ytjcenfgmpbeldaa
