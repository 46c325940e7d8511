/-
  ImageZs: lemmas on what Go functions of this seat come to (for whatever arguments, as each says). No condition but those that stand in each lemma.
-/
import Derived.Test.YtjcenfgmpbeldaaCod
import Derived.Test.YtjcenfgmpbeldaaImageV
import Derived.Test.YtjcenfgmpbeldaaCodR
import Derived.Test.YtjcenfgmpbeldaaImageV1
namespace Go.Proofs.Ytjcenfgmpbeldaa
open Go Go.Ev
set_option maxRecDepth 100000
set_option linter.unusedVariables false
set_option linter.unusedSimpArgs false

abbrev bytesV (l : List Int) : List Value := l.map (Value.int .u8)
abbrev ShT := Option Addr × Nat × Nat
theorem t58 : TSl Try.prog 43 5 1 1 := tsl_of Try.underlying43 (by kernel_rfl)
theorem bytes_oc (l : List Int) : ∀ u ∈ bytesV l, u.oneCell' = true := by intro u hu; obtain ⟨z, _, rfl⟩ := List.mem_map.mp hu; rfl

/-- a writer at p, all above B -/
structure Wr (w : World) (B p : Nat) (q : ShT) (xs : List Int) : Prop where
  blk : Blk w p [.slice q.1 q.2.1 q.2.2, .int .i64 0] 130
  own : Own w 5 1 q (bytesV xs)
  ap : p ∉ blkOf q
  bp : B ≤ p
  bq : ∀ y ∈ blkOf q, B ≤ y
  bB : B ≤ w.heap.size

theorem Wr.fr {w w' : World} {B p : Nat} {q : ShT} {xs : List Int} {S : List Nat} (h : Wr w B p q xs) (hf : Fr S w w') (h1 : p ∉ S) (h2 : ∀ y ∈ blkOf q, y ∉ S) : Wr w' B p q xs :=
  ⟨h.blk.fr hf h1, h.own.fr hf h2, h.ap, h.bp, h.bq, Nat.le_trans h.bB hf.size⟩

theorem new50 (w : World) : ∃ w', callF Try.prog 44 #[] w = some (.pointer (some ⟨w.heap.size, 0, none⟩), w') ∧ Wr w' w.heap.size w.heap.size (none, 0, 0) [] ∧ Fr [] w w' := by
  refine ⟨w.alloc (.cells #[.slice none 0 0, .int .i64 0] 130), g44_call ?_, ⟨Blk.new w [.slice none 0 0, .int .i64 0] 130, Own.nil _ _ _, by simp [blkOf], Nat.le_refl _, by simp [blkOf], (Fr.alloc (w := w) _).size⟩, Fr.alloc _⟩
  unfold g44
  rfl

section
variable {w : World} {B p : Nat} {q : ShT} {xs : List Int}

theorem wr_put (h : Wr w B p q xs) (b : Int) (hl : xs.length ≤ 1099511627776) : ∃ q1 w1 w2, callB Try.prog .append #[43, 43] 43 #[false, false] #[.slice q.1 q.2.1 q.2.2, .slice (some ⟨w.heap.size, 0, none⟩) 1 1] (w.alloc (.cells #[.int .u8 b] 5)) = some (.slice q1.1 q1.2.1 q1.2.2, w1) ∧
    st1 w1 ⟨p, 0, none⟩ (.slice q1.1 q1.2.1 q1.2.2) = some w2 ∧ Wr w2 B p q1 (xs ++ [b]) ∧ Fr (p :: blkOf q) w w2 ∧ (∀ y ∈ blkOf q1, y ∈ blkOf q ∨ w.heap.size ≤ y) := by
  have hml : maxLen = 9223372036854775807 := by decide
  have hlen := h.own.len
  simp at hlen
  obtain ⟨q1, w1, e1, o1, f1, n1, m1⟩ := app_one t58 h.own (ys := [.int .u8 b]) rfl (by intro y hy; simp at hy; subst hy; rfl) (by omega) (by omega) 43 #[false, false]
  have lp := h.blk.lt
  have b1 := h.blk.fr f1 h.ap
  have hap : p ∉ blkOf q1 := fun hm => by rcases n1 p hm with hm | hm; exact h.ap hm; omega
  refine ⟨q1, w1, _, e1, b1.st1 (i := 0) (by simp) rfl, ⟨b1.set 0 _, ?_, hap, h.bp, fun y hy => by rcases n1 y hy with hy | hy; exact h.bq y hy; have := h.bB; omega, ?_⟩, (f1.app Fr.setCell).mono (by intro y hy _; simp at hy; simp; exact hy.symm), n1⟩
  · have := o1.fr (S := [p]) (w' := w1.setCell ⟨p, 0, none⟩ (.slice q1.1 q1.2.1 q1.2.2)) Fr.setCell (by intro y hy hm; simp at hm; subst hm; exact hap hy)
    simpa [bytesV] using this
  · have h1 := f1.size
    have h2 := (Fr.setCell (w := w1) (b := p) (i := 0) (v := .slice q1.1 q1.2.1 q1.2.2)).size
    have := h.bB
    omega

theorem fr_wr {S : List Nat} {q q1 : ShT} {w w1 w2 : World} {p : Nat} (f1 : Fr (p :: blkOf q) w w1) (f2 : Fr (p :: blkOf q1) w1 w2) (n : ∀ y ∈ blkOf q1, y ∈ blkOf q ∨ w.heap.size ≤ y) : Fr (p :: blkOf q) w w2 :=
  (f1.app f2).mono (by
    intro y hy hl
    rcases List.mem_append.mp hy with hy | hy
    · exact hy
    · rcases List.mem_cons.mp hy with rfl | hy
      · simp
      · rcases n y hy with h | h
        · exact List.mem_cons_of_mem _ h
        · omega)
theorem new_wr {q q1 q2 : ShT} {w w1 : World} {S : List Nat} (f1 : Fr S w w1) (n1 : ∀ y ∈ blkOf q1, y ∈ blkOf q ∨ w.heap.size ≤ y) (n2 : ∀ y ∈ blkOf q2, y ∈ blkOf q1 ∨ w1.heap.size ≤ y) : ∀ y ∈ blkOf q2, y ∈ blkOf q ∨ w.heap.size ≤ y := by
  intro y hy
  have := f1.size
  rcases n2 y hy with h | h
  · exact n1 y h
  · exact .inr (by omega)

theorem uint52 (h : Wr w B p q xs) {n : Nat} (hn : n < 2 ^ 64) (hl : xs.length ≤ 1000000000000) :
    ∃ q' w', callF Try.prog 45 #[.pointer (some ⟨p, 0, none⟩), .int .u64 (n : Int)] w = some (.tuple #[], w') ∧ Wr w' B p q' (xs ++ encU n) ∧ Fr (p :: blkOf q) w w' ∧ ∀ y ∈ blkOf q', y ∈ blkOf q ∨ w.heap.size ≤ y := by
  have h10 := encU_len10 hn
  obtain ⟨e, t, w1, g1, rfl, m, q1, xs1, rfl, hm, hx, h1, f1, n1⟩ := loopS_meas (b := g45_l1_b (some ⟨p, 0, none⟩)) (fun s => s.toNat)
    (I := fun s x => ∃ (m : Nat) (q1 : ShT) (xs1 : List Int), s = (m : Int) ∧ m < 2 ^ 64 ∧ xs1 ++ encU m = xs ++ encU n ∧ Wr x B p q1 xs1 ∧ Fr (p :: blkOf q) w x ∧ ∀ y ∈ blkOf q1, y ∈ blkOf q ∨ w.heap.size ≤ y)
    (Q := fun e s x => e = .exit 0 ∧ ∃ (m : Nat) (q1 : ShT) (xs1 : List Int), s = (m : Int) ∧ m < 128 ∧ xs1 ++ encU m = xs ++ encU n ∧ Wr x B p q1 xs1 ∧ Fr (p :: blkOf q) w x ∧ ∀ y ∈ blkOf q1, y ∈ blkOf q ∨ w.heap.size ≤ y)
    (fun s x ⟨m, q1, xs1, hs, hm, hx, h1, f1, n1⟩ => by
      subst hs
      have hxl : xs1.length + (encU m).length = xs.length + (encU n).length := by rw [← List.length_append, hx, List.length_append]
      have c0 : x.cell? ⟨p, 0, none⟩ = some (.slice q1.1 q1.2.1 q1.2.2) := h1.blk.cell 0
      by_cases hk : m < 128
      · refine ⟨.exit 0, (m : Int), x, ?_, .inr ⟨by simp, rfl, m, q1, xs1, rfl, hk, hx, h1, f1, n1⟩⟩
        unfold g45_l1_b
        have k1 : decide ((m : Int) > 127) = false := by simp; omega
        simp only [k1, Bool.false_eq_true, if_false]
      · have k1 : decide ((m : Int) > 127) = true := by simp; omega
        obtain ⟨q2, x1, x2, e1, e2, h2, f2, n2⟩ := wr_put h1 ((m % 128 + 128 : Nat) : Int) (by omega)
        have ev : IntKind.u8.wrap ((BitVec.ofInt 8 (IntKind.u8.wrap (m : Int)) ||| BitVec.ofInt 8 128).toNat : Nat) = ((m % 128 + 128 : Nat) : Int) := by
          have ew : ∀ n : Int, IntKind.u8.wrap n = n % 256 := fun n => by simp [IntKind.wrap, IntKind.bits, IntKind.signed]
          rw [ew (m : Int), or128 (by omega), ew]; omega
        have ef : Int.fdiv (m : Int) (2 ^ (min (Int.toNat 7) 64)) = ((m / 128 : Nat) : Int) := by
          rw [show (2 : Int) ^ (min (Int.toNat 7) 64) = 128 by decide, Int.fdiv_eq_ediv_of_nonneg _ (by omega)]; omega
        refine ⟨.normal, ((m / 128 : Nat) : Int), x2, ?_, .inl ⟨rfl, ⟨m / 128, q2, xs1 ++ [((m % 128 + 128 : Nat) : Int)], rfl, by omega, ?_, h2, fr_wr (S := []) f1 f2 n1, new_wr f1 n1 n2⟩, by simp; omega⟩⟩
        · unfold g45_l1_b
          simp only [k1, c0, ev, e1, e2, ef, obs, asP_pointer, asB_bool, asI_int, asS_string, asSl_slice, asM_map, asTup0, asTup1, asTup2, asTup3, asTup4, asTup5, asTup6, asTup7, asTup8, asTup9, asAgg2, asAgg3, asAgg4, asAgg5, asAgg6, asAgg7, asAgg8, asAgg9, asAgg12, getD0, getD1, getD2, getD3, getD4, getD5, getD6, getD7, getD8, getD9, getD10, getD11, getD12, getD13, getD14, getD15, getD16, getD17, getD18, getD19, Bool.not_true, Bool.not_false, Bool.false_eq_true, Bool.true_eq_false, ↓reduceIte, decide_true, decide_false, Option.isNone_some, Option.isNone_none, Option.isSome_some, Option.isSome_none, beq_self_eq_true, bne_self_eq_false, Bool.and_true, Bool.true_and, Bool.and_false, Bool.false_and, not_true_eq_false, not_false_eq_true]
        · rw [encU_ge hk] at hx
          rw [← hx]; simp) (s := (n : Int)) (w := w) ⟨n, q, xs, rfl, hn, rfl, h, Fr.refl _ _, fun y hy => .inl hy⟩
  have hxl : xs1.length + (encU m).length = xs.length + (encU n).length := by rw [← List.length_append, hx, List.length_append]
  have c0 : w1.cell? ⟨p, 0, none⟩ = some (.slice q1.1 q1.2.1 q1.2.2) := h1.blk.cell 0
  obtain ⟨q2, x1, x2, e1, e2, h2, f2, n2⟩ := wr_put h1 (m : Int) (by omega)
  have ev : IntKind.u8.wrap (m : Int) = (m : Int) := by
    have ew : ∀ n : Int, IntKind.u8.wrap n = n % 256 := fun n => by simp [IntKind.wrap, IntKind.bits, IntKind.signed]
    rw [ew]; omega
  rw [encU_lt hm] at hx
  rw [hx] at h2
  refine ⟨q2, x2, g45_call ?_, h2, fr_wr (S := []) f1 f2 n1, new_wr f1 n1 n2⟩
  unfold g45
  simp only [Option.isNone_some, Bool.false_eq_true, if_false]
  rw [g45_l1_x0_of g1]
  unfold g45_l1_x0
  simp only [c0, ev, e1, e2, obs, asP_pointer, asB_bool, asI_int, asS_string, asSl_slice, asM_map, asTup0, asTup1, asTup2, asTup3, asTup4, asTup5, asTup6, asTup7, asTup8, asTup9, asAgg2, asAgg3, asAgg4, asAgg5, asAgg6, asAgg7, asAgg8, asAgg9, asAgg12, getD0, getD1, getD2, getD3, getD4, getD5, getD6, getD7, getD8, getD9, getD10, getD11, getD12, getD13, getD14, getD15, getD16, getD17, getD18, getD19, Bool.not_true, Bool.not_false, Bool.false_eq_true, Bool.true_eq_false, ↓reduceIte, decide_true, decide_false, Option.isNone_some, Option.isNone_none, Option.isSome_some, Option.isSome_none, beq_self_eq_true, bne_self_eq_false, Bool.and_true, Bool.true_and, Bool.and_false, Bool.false_and, not_true_eq_false, not_false_eq_true]

theorem int51 (h : Wr w B p q xs) {z : Int} (hz : -9223372036854775808 ≤ z ∧ z ≤ 9223372036854775807) (hl : xs.length ≤ 1000000000000) :
    ∃ q' w', callF Try.prog 47 #[.pointer (some ⟨p, 0, none⟩), .int .i64 z] w = some (.tuple #[], w') ∧ Wr w' B p q' (xs ++ encI z) ∧ Fr (p :: blkOf q) w w' ∧ ∀ y ∈ blkOf q', y ∈ blkOf q ∨ w.heap.size ≤ y := by
  obtain ⟨q', w', e, h1, f1, n1⟩ := uint52 h (zig_lt hz) hl
  refine ⟨q', w', g47_call ?_, h1, f1, n1⟩
  unfold g47
  rw [zig_bits hz]
  simp only [e, obs, asP_pointer, asB_bool, asI_int, asS_string, asSl_slice, asM_map, asTup0, asTup1, asTup2, asTup3, asTup4, asTup5, asTup6, asTup7, asTup8, asTup9, asAgg2, asAgg3, asAgg4, asAgg5, asAgg6, asAgg7, asAgg8, asAgg9, asAgg12, getD0, getD1, getD2, getD3, getD4, getD5, getD6, getD7, getD8, getD9, getD10, getD11, getD12, getD13, getD14, getD15, getD16, getD17, getD18, getD19, Bool.not_true, Bool.not_false, Bool.false_eq_true, Bool.true_eq_false, ↓reduceIte, decide_true, decide_false, Option.isNone_some, Option.isNone_none, Option.isSome_some, Option.isSome_none, beq_self_eq_true, bne_self_eq_false, Bool.and_true, Bool.true_and, Bool.and_false, Bool.false_and, not_true_eq_false, not_false_eq_true]

theorem flag54 (h : Wr w B p q xs) (b : Bool) (hl : xs.length ≤ 1000000000000) :
    ∃ q' w', callF Try.prog 46 #[.pointer (some ⟨p, 0, none⟩), .bool b] w = some (.tuple #[], w') ∧ Wr w' B p q' (xs ++ encF b) ∧ Fr (p :: blkOf q) w w' ∧ ∀ y ∈ blkOf q', y ∈ blkOf q ∨ w.heap.size ≤ y := by
  obtain ⟨q', w', e, h1, f1, n1⟩ := uint52 h (n := if b then 1 else 0) (by cases b <;> decide) hl
  have he : encU (if b then 1 else 0) = encF b := by cases b <;> simp [encF, encU_lt]
  rw [he] at h1
  refine ⟨q', w', g46_call ?_, h1, f1, n1⟩
  unfold g46
  cases b
  · have e' : callF Try.prog 45 #[.pointer (some ⟨p, 0, none⟩), .int .u64 0] w = some (.tuple #[], w') := e
    simp only [e', obs, asP_pointer, asB_bool, asI_int, asS_string, asSl_slice, asM_map, asTup0, asTup1, asTup2, asTup3, asTup4, asTup5, asTup6, asTup7, asTup8, asTup9, asAgg2, asAgg3, asAgg4, asAgg5, asAgg6, asAgg7, asAgg8, asAgg9, asAgg12, getD0, getD1, getD2, getD3, getD4, getD5, getD6, getD7, getD8, getD9, getD10, getD11, getD12, getD13, getD14, getD15, getD16, getD17, getD18, getD19, Bool.not_true, Bool.not_false, Bool.false_eq_true, Bool.true_eq_false, ↓reduceIte, decide_true, decide_false, Option.isNone_some, Option.isNone_none, Option.isSome_some, Option.isSome_none, beq_self_eq_true, bne_self_eq_false, Bool.and_true, Bool.true_and, Bool.and_false, Bool.false_and, not_true_eq_false, not_false_eq_true]
  · have e' : callF Try.prog 45 #[.pointer (some ⟨p, 0, none⟩), .int .u64 1] w = some (.tuple #[], w') := e
    simp only [e', obs, asP_pointer, asB_bool, asI_int, asS_string, asSl_slice, asM_map, asTup0, asTup1, asTup2, asTup3, asTup4, asTup5, asTup6, asTup7, asTup8, asTup9, asAgg2, asAgg3, asAgg4, asAgg5, asAgg6, asAgg7, asAgg8, asAgg9, asAgg12, getD0, getD1, getD2, getD3, getD4, getD5, getD6, getD7, getD8, getD9, getD10, getD11, getD12, getD13, getD14, getD15, getD16, getD17, getD18, getD19, Bool.not_true, Bool.not_false, Bool.false_eq_true, Bool.true_eq_false, ↓reduceIte, decide_true, decide_false, Option.isNone_some, Option.isNone_none, Option.isSome_some, Option.isSome_none, beq_self_eq_true, bne_self_eq_false, Bool.and_true, Bool.true_and, Bool.and_false, Bool.false_and, not_true_eq_false, not_false_eq_true]

theorem flat_lenW (l : List Int) (hz : ∀ z ∈ l, -9223372036854775808 ≤ z ∧ z ≤ 9223372036854775807) : (l.map encI).flatten.length ≤ 10 * l.length := by
  induction l with
  | nil => simp
  | cons z l ih =>
    have := ih (fun y hy => hz y (by simp [hy]))
    have h1 := encU_len10 (zig_lt (hz z (by simp)))
    have h2 : (encI z).length ≤ 10 := h1
    simp only [List.map_cons, List.flatten_cons, List.length_append, List.length_cons]
    omega

theorem ints53 (h : Wr w B p q xs) {u : ShT} {l : List Int} (hu : SlI .i64 w u l) (hap : 0 < u.2.1 → ∀ y ∈ blkOf u, y ≠ p ∧ y ∉ blkOf q) (hz : ∀ z ∈ l, -9223372036854775808 ≤ z ∧ z ≤ 9223372036854775807) (hll : l.length ≤ 10000000) (hl : xs.length ≤ 100000000000) :
    ∃ q' w', callF Try.prog 48 #[.pointer (some ⟨p, 0, none⟩), .slice u.1 u.2.1 u.2.2] w = some (.tuple #[], w') ∧ Wr w' B p q' (xs ++ encL l) ∧ Fr (p :: blkOf q) w w' ∧ ∀ y ∈ blkOf q', y ∈ blkOf q ∨ w.heap.size ≤ y := by
  have hul := hu.1
  obtain ⟨q1, w1, e1, h1, f1, n1⟩ := uint52 h (n := l.length) (by omega) (by omega)
  have h10 := encU_len10 (n := l.length) (by omega)
  have hw : IntKind.u64.wrap (u.2.1 : Int) = (l.length : Int) := by rw [wrap_u64 (by omega) (by omega)]; omega
  have hlt : 0 < u.2.1 → ∀ y ∈ blkOf u, y < w.heap.size := fun h0 y hy => by
    have := hu.slC.lt (by simp; omega) y hy; exact this
  have hu' : ∀ {x : World}, Fr (p :: blkOf q) w x → SlI .i64 x u l := fun hf => hu.fr3 hf (fun h0 y hy hm => by
    rcases List.mem_cons.mp hm with rfl | hm
    · exact (hap h0 y hy).1 rfl
    · exact (hap h0 y hy).2 hm)
  obtain ⟨t, w2, g1, rfl, q2, h2, f2, n2⟩ := loopS_countX 0 (b := g48_l4_b u (some ⟨p, 0, none⟩)) (I := fun k s x => s = (k : Int) ∧ ∃ q2, Wr x B p q2 (xs ++ encU l.length ++ ((l.take k).map encI).flatten) ∧ Fr (p :: blkOf q) w x ∧ ∀ y ∈ blkOf q2, y ∈ blkOf q ∨ w.heap.size ≤ y) (n := l.length)
    (fun k s x hk ⟨hs, q2, h2, f2, n2⟩ => by
      subst hs
      obtain ⟨a, i1, c1⟩ := (hu' f2).get hk
      have hfl := flat_lenW (l.take k) (fun z hz' => hz z (List.mem_of_mem_take hz'))
      simp only [List.length_take] at hfl
      obtain ⟨q3, x1, e3, h3, f3, n3⟩ := int51 h2 (hz l[k] (List.getElem_mem hk)) (by simp only [List.length_append]; omega)
      have k1 : decide ((k : Int) < (u.2.1 : Int)) = true := by simp; omega
      have kw := wrap_succ (n := k) (by omega)
      refine ⟨_, x1, ?_, rfl, q3, ?_, fr_wr (S := []) f2 f3 n2, new_wr f2 n2 n3⟩
      · unfold g48_l4_b
        simp only [k1, i1, c1, e3, kw, obs, asP_pointer, asB_bool, asI_int, asS_string, asSl_slice, asM_map, asTup0, asTup1, asTup2, asTup3, asTup4, asTup5, asTup6, asTup7, asTup8, asTup9, asAgg2, asAgg3, asAgg4, asAgg5, asAgg6, asAgg7, asAgg8, asAgg9, asAgg12, getD0, getD1, getD2, getD3, getD4, getD5, getD6, getD7, getD8, getD9, getD10, getD11, getD12, getD13, getD14, getD15, getD16, getD17, getD18, getD19, Bool.not_true, Bool.not_false, Bool.false_eq_true, Bool.true_eq_false, ↓reduceIte, decide_true, decide_false, Option.isNone_some, Option.isNone_none, Option.isSome_some, Option.isSome_none, beq_self_eq_true, bne_self_eq_false, Bool.and_true, Bool.true_and, Bool.and_false, Bool.false_and, not_true_eq_false, not_false_eq_true]
      · have : ((l.take (k + 1)).map encI).flatten = ((l.take k).map encI).flatten ++ encI l[k] := by
          rw [List.take_succ_eq_append_getElem hk, List.map_append, List.flatten_append]; simp
        rw [this, ← List.append_assoc]; exact h3)
    (fun s x ⟨hs, _⟩ => by
      subst hs
      unfold g48_l4_b
      have k1 : decide ((l.length : Int) < (u.2.1 : Int)) = false := by simp; omega
      simp only [k1, Bool.false_eq_true, if_false]) (k := 0) (s := 0) (w := w1) (Nat.zero_le _) ⟨rfl, q1, by simpa using h1, f1, n1⟩
  rw [List.take_length, List.append_assoc] at h2
  refine ⟨q2, w2, g48_call ?_, h2, f2, n2⟩
  unfold g48
  rw [hw]
  simp only [e1, obs, asP_pointer, asB_bool, asI_int, asS_string, asSl_slice, asM_map, asTup0, asTup1, asTup2, asTup3, asTup4, asTup5, asTup6, asTup7, asTup8, asTup9, asAgg2, asAgg3, asAgg4, asAgg5, asAgg6, asAgg7, asAgg8, asAgg9, asAgg12, getD0, getD1, getD2, getD3, getD4, getD5, getD6, getD7, getD8, getD9, getD10, getD11, getD12, getD13, getD14, getD15, getD16, getD17, getD18, getD19, Bool.not_true, Bool.not_false, Bool.false_eq_true, Bool.true_eq_false, ↓reduceIte, decide_true, decide_false, Option.isNone_some, Option.isNone_none, Option.isSome_some, Option.isSome_none, beq_self_eq_true, bne_self_eq_false, Bool.and_true, Bool.true_and, Bool.and_false, Bool.false_and, not_true_eq_false, not_false_eq_true]
  rw [g48_l4_x0_of g1, g48_l4_x0]

theorem out55 (h : Wr w B p q xs) (hl : xs.length ≤ 100000000000000) :
    ∃ q' w', callF Try.prog 49 #[.pointer (some ⟨p, 0, none⟩)] w = some (.tuple #[.slice q'.1 q'.2.1 q'.2.2, .int .i64 0], w') ∧ Own w' 5 1 q' (bytesV xs) ∧ Fr [] w w' ∧ ∀ y ∈ blkOf q', w.heap.size ≤ y := by
  have hml : maxLen = 9223372036854775807 := by decide
  have hlen := h.own.len
  simp at hlen
  obtain ⟨q', w', e, o, f, n, _⟩ := app_nil t58 h.own.slC (bytes_oc xs) (by omega) (by omega) 43 #[true, false]
  have c0 : w.cell? ⟨p, 0, none⟩ = some (.slice q.1 q.2.1 q.2.2) := h.blk.cell 0
  have c1 : w.cell? ⟨p, 1, none⟩ = some (.int .i64 0) := h.blk.cell 1
  refine ⟨q', w', g49_call ?_, o, f, n⟩
  unfold g49
  have k0 : ((0 : Int) != 0) = false := rfl
  simp only [addr_add, Nat.zero_add, c1, k0, c0, e, obs, asP_pointer, asB_bool, asI_int, asS_string, asSl_slice, asM_map, asTup0, asTup1, asTup2, asTup3, asTup4, asTup5, asTup6, asTup7, asTup8, asTup9, asAgg2, asAgg3, asAgg4, asAgg5, asAgg6, asAgg7, asAgg8, asAgg9, asAgg12, getD0, getD1, getD2, getD3, getD4, getD5, getD6, getD7, getD8, getD9, getD10, getD11, getD12, getD13, getD14, getD15, getD16, getD17, getD18, getD19, Bool.not_true, Bool.not_false, Bool.false_eq_true, Bool.true_eq_false, ↓reduceIte, decide_true, decide_false, Option.isNone_some, Option.isNone_none, Option.isSome_some, Option.isSome_none, beq_self_eq_true, bne_self_eq_false, Bool.and_true, Bool.true_and, Bool.and_false, Bool.false_and, not_true_eq_false, not_false_eq_true]
end
end Go.Proofs.Ytjcenfgmpbeldaa

namespace Go.Proofs.Ytjcenfgmpbeldaa
open Go Go.Ev
set_option maxRecDepth 100000
set_option linter.unusedVariables false
set_option linter.unusedSimpArgs false

/-- a reader at p over q -/
structure Rdr (T : TypeId) (w : World) (p : Nat) (q : ShT) (s : RS) : Prop where
  blk : Blk w p [.slice q.1 q.2.1 q.2.2, .int .i64 (s.at_ : Int), .int .i64 s.e] T
  txt : SlI .u8 w q s.bs
  ap : 0 < q.2.1 → p ∉ blkOf q
  ok : s.Ok

section
variable {T : TypeId} {w : World} {p : Nat} {q : ShT} {s : RS}
theorem Rdr.fr {w' : World} {S : List Nat} (h : Rdr T w p q s) (hf : Fr S w w') (h1 : p ∉ S) (h2 : 0 < q.2.1 → ∀ y ∈ blkOf q, y ∉ S) : Rdr T w' p q s :=
  ⟨h.blk.fr hf h1, h.txt.fr3 hf h2, h.ap, h.ok⟩
theorem Rdr.put_at (h : Rdr T w p q s) {n : Nat} (hn : n ≤ s.bs.length) : ∃ w', st1 w ⟨p, 1, none⟩ (.int .i64 (n : Int)) = some w' ∧ Rdr T w' p q { s with at_ := n } ∧ Fr [p] w w' := by
  refine ⟨_, h.blk.st1 (i := 1) (by simp) rfl, ⟨h.blk.set 1 _, h.txt.fr3 Fr.setCell (fun h0 y hy hm => ?_), h.ap, ⟨h.ok.byte, hn, h.ok.len⟩⟩, Fr.setCell⟩
  simp at hm; subst hm; exact h.ap h0 hy
theorem Rdr.put_e (h : Rdr T w p q s) (e : Int) : ∃ w', st1 w ⟨p, 2, none⟩ (.int .i64 e) = some w' ∧ Rdr T w' p q { s with e := e } ∧ Fr [p] w w' := by
  refine ⟨_, h.blk.st1 (i := 2) (by simp) rfl, ⟨h.blk.set 2 _, h.txt.fr3 Fr.setCell (fun h0 y hy hm => ?_), h.ap, ⟨h.ok.byte, h.ok.at_, h.ok.len⟩⟩, Fr.setCell⟩
  simp at hm; subst hm; exact h.ap h0 hy
theorem Rdr.drew (h : Rdr T w p q s) : Rdr T w.drew p q s := h.fr (Fr.drew [] w) (by simp) (by simp)

theorem fail70 (h : Rdr 134 w p q s) (e : Int) : ∃ w', callF Try.prog 82 #[.pointer (some ⟨p, 0, none⟩), .int .i64 e] w = some (.tuple #[], w') ∧ Rdr 134 w' p q (s.fail e) ∧ Fr [p] w w' := by
  have c2 : w.cell? ⟨p, 2, none⟩ = some (.int .i64 s.e) := h.blk.cell 2
  by_cases h0 : s.e = 0
  · obtain ⟨w', s1, h1, f1⟩ := h.put_e e
    have k0 : (s.e == 0) = true := by simp [h0]
    refine ⟨w', g82_call ?_, by unfold RS.fail; rw [if_pos h0]; exact h1, f1⟩
    unfold g82
    simp only [addr_add, Nat.zero_add, c2, k0, s1, obs, asP_pointer, asB_bool, asI_int, asS_string, asSl_slice, asM_map, asTup0, asTup1, asTup2, asTup3, asTup4, asTup5, asTup6, asTup7, asTup8, asTup9, asAgg2, asAgg3, asAgg4, asAgg5, asAgg6, asAgg7, asAgg8, asAgg9, asAgg12, getD0, getD1, getD2, getD3, getD4, getD5, getD6, getD7, getD8, getD9, getD10, getD11, getD12, getD13, getD14, getD15, getD16, getD17, getD18, getD19, Bool.not_true, Bool.not_false, Bool.false_eq_true, Bool.true_eq_false, ↓reduceIte, decide_true, decide_false, Option.isNone_some, Option.isNone_none, Option.isSome_some, Option.isSome_none, beq_self_eq_true, bne_self_eq_false, Bool.and_true, Bool.true_and, Bool.and_false, Bool.false_and, not_true_eq_false, not_false_eq_true]
  · have k0 : (s.e == 0) = false := by simp [h0]
    refine ⟨w, g82_call ?_, by unfold RS.fail; rw [if_neg h0]; exact h, Fr.refl _ _⟩
    unfold g82
    simp only [addr_add, Nat.zero_add, c2, k0, obs, asP_pointer, asB_bool, asI_int, asS_string, asSl_slice, asM_map, asTup0, asTup1, asTup2, asTup3, asTup4, asTup5, asTup6, asTup7, asTup8, asTup9, asAgg2, asAgg3, asAgg4, asAgg5, asAgg6, asAgg7, asAgg8, asAgg9, asAgg12, getD0, getD1, getD2, getD3, getD4, getD5, getD6, getD7, getD8, getD9, getD10, getD11, getD12, getD13, getD14, getD15, getD16, getD17, getD18, getD19, Bool.not_true, Bool.not_false, Bool.false_eq_true, Bool.true_eq_false, ↓reduceIte, decide_true, decide_false, Option.isNone_some, Option.isNone_none, Option.isSome_some, Option.isSome_none, beq_self_eq_true, bne_self_eq_false, Bool.and_true, Bool.true_and, Bool.and_false, Bool.false_and, not_true_eq_false, not_false_eq_true]
theorem fail69 (h : Rdr 101 w p q s) (e : Int) : ∃ w', callF Try.prog 81 #[.pointer (some ⟨p, 0, none⟩), .int .i64 e] w = some (.tuple #[], w') ∧ Rdr 101 w' p q (s.fail e) ∧ Fr [p] w w' := by
  have c2 : w.cell? ⟨p, 2, none⟩ = some (.int .i64 s.e) := h.blk.cell 2
  by_cases h0 : s.e = 0
  · obtain ⟨w', s1, h1, f1⟩ := h.put_e e
    have k0 : (s.e == 0) = true := by simp [h0]
    refine ⟨w', g81_call ?_, by unfold RS.fail; rw [if_pos h0]; exact h1, f1⟩
    unfold g81
    simp only [addr_add, Nat.zero_add, c2, k0, s1, obs, asP_pointer, asB_bool, asI_int, asS_string, asSl_slice, asM_map, asTup0, asTup1, asTup2, asTup3, asTup4, asTup5, asTup6, asTup7, asTup8, asTup9, asAgg2, asAgg3, asAgg4, asAgg5, asAgg6, asAgg7, asAgg8, asAgg9, asAgg12, getD0, getD1, getD2, getD3, getD4, getD5, getD6, getD7, getD8, getD9, getD10, getD11, getD12, getD13, getD14, getD15, getD16, getD17, getD18, getD19, Bool.not_true, Bool.not_false, Bool.false_eq_true, Bool.true_eq_false, ↓reduceIte, decide_true, decide_false, Option.isNone_some, Option.isNone_none, Option.isSome_some, Option.isSome_none, beq_self_eq_true, bne_self_eq_false, Bool.and_true, Bool.true_and, Bool.and_false, Bool.false_and, not_true_eq_false, not_false_eq_true]
  · have k0 : (s.e == 0) = false := by simp [h0]
    refine ⟨w, g81_call ?_, by unfold RS.fail; rw [if_neg h0]; exact h, Fr.refl _ _⟩
    unfold g81
    simp only [addr_add, Nat.zero_add, c2, k0, obs, asP_pointer, asB_bool, asI_int, asS_string, asSl_slice, asM_map, asTup0, asTup1, asTup2, asTup3, asTup4, asTup5, asTup6, asTup7, asTup8, asTup9, asAgg2, asAgg3, asAgg4, asAgg5, asAgg6, asAgg7, asAgg8, asAgg9, asAgg12, getD0, getD1, getD2, getD3, getD4, getD5, getD6, getD7, getD8, getD9, getD10, getD11, getD12, getD13, getD14, getD15, getD16, getD17, getD18, getD19, Bool.not_true, Bool.not_false, Bool.false_eq_true, Bool.true_eq_false, ↓reduceIte, decide_true, decide_false, Option.isNone_some, Option.isNone_none, Option.isSome_some, Option.isSome_none, beq_self_eq_true, bne_self_eq_false, Bool.and_true, Bool.true_and, Bool.and_false, Bool.false_and, not_true_eq_false, not_false_eq_true]

theorem fr1 {w w1 w2 : World} (f : Fr [p] w w1) (g : Fr [p] w1 w2) : Fr [p] w w2 := (f.app g).mono (by intro y hy _; simpa using hy)

/-- how a number is read so far -/
def RdI (T : TypeId) (W : World) (p : Nat) (q : ShT) (s : RS) (at' : Nat) (k acc : Nat) (w : World) : Prop :=
  k ≤ 9 ∧ acc < 2 ^ (7 * k) ∧ s.at_ + k ≤ s.bs.length ∧ Rdr T w p q { s with at_ := at' } ∧ Fr [p] W w ∧ rdU (s.bs.drop s.at_) 0 = comb acc k (rdU (s.bs.drop (s.at_ + k)) k)

theorem uint58_round {W : World} {k acc : Nat} (he : s.e = 0) (h : RdI 134 W p q s (s.at_ + k) k acc w) :
    ∃ e st w', g62_l7_b (some ⟨p, 0, none⟩) (s.at_ : Int) (0, (acc : Int), ((7 * k : Nat) : Int)) w = some (e, st, w') ∧
      (e = .normal ∧ (∃ acc' : Nat, st = (0, (acc' : Int), ((7 * (k + 1) : Nat) : Int)) ∧ RdI 134 W p q s (s.at_ + (k + 1)) (k + 1) acc' w') ∨
       e ≠ .normal ∧ e = .ret ∧ st.1 = ((uintS s).1 : Int) ∧ Rdr 134 w' p q (uintS s).2 ∧ Fr [p] W w') := by
  obtain ⟨hk, ha, hat, hR, hF, hr⟩ := h
  have hlen := hR.txt.1
  simp only at hlen
  have hok := hR.ok
  have fd := Fr.drew [p] w
  have h1 := hR.drew
  have h2 := h1.drew
  have c1 : w.drew.cell? ⟨p, 1, none⟩ = some (.int .i64 ((s.at_ + k : Nat) : Int)) := h1.blk.cell 1
  have c0 : w.drew.cell? ⟨p, 0, none⟩ = some (.slice q.1 q.2.1 q.2.2) := h1.blk.cell 0
  by_cases hend : s.at_ + k = s.bs.length
  · have k1 : (((s.at_ + k : Nat) : Int) == (q.2.1 : Int)) = true := by simp; omega
    obtain ⟨w1, s1, R1, f1⟩ := h1.put_at (n := s.at_) (by simp only; omega)
    obtain ⟨w2, e2, R2, f2⟩ := fail70 R1 6
    have hd : s.bs.drop (s.at_ + k) = [] := List.drop_eq_nil_of_le (by omega)
    have hu : uintS s = (0, { s with e := 6 }) := by
      rw [uintS_of he, hr, hd]; rfl
    refine ⟨.ret, (0, (acc : Int), ((7 * k : Nat) : Int)), w2, ?_, .inr ⟨by simp, rfl, by rw [hu]; rfl, ?_, fr1 (fr1 (fr1 hF fd) f1) f2⟩⟩
    · unfold g62_l7_b
      simp only [addr_add, Nat.zero_add, c1, c0, k1, s1, e2, obs, asP_pointer, asB_bool, asI_int, asS_string, asSl_slice, asM_map, asTup0, asTup1, asTup2, asTup3, asTup4, asTup5, asTup6, asTup7, asTup8, asTup9, asAgg2, asAgg3, asAgg4, asAgg5, asAgg6, asAgg7, asAgg8, asAgg9, asAgg12, getD0, getD1, getD2, getD3, getD4, getD5, getD6, getD7, getD8, getD9, getD10, getD11, getD12, getD13, getD14, getD15, getD16, getD17, getD18, getD19, Bool.not_true, Bool.not_false, Bool.false_eq_true, Bool.true_eq_false, ↓reduceIte, decide_true, decide_false, Option.isNone_some, Option.isNone_none, Option.isSome_some, Option.isSome_none, beq_self_eq_true, bne_self_eq_false, Bool.and_true, Bool.true_and, Bool.and_false, Bool.false_and, not_true_eq_false, not_false_eq_true]
    · rw [hu]
      have : ({ s with at_ := s.at_ } : RS).fail 6 = { s with e := 6 } := by unfold RS.fail; rw [if_pos he]
      rw [← this]; exact R2
  · have k1 : (((s.at_ + k : Nat) : Int) == (q.2.1 : Int)) = false := by simp; omega
    have hlt : s.at_ + k < s.bs.length := by omega
    obtain ⟨a, i1, cb⟩ := h2.txt.get hlt
    obtain ⟨b, hb⟩ : ∃ b, s.bs[s.at_ + k] = b := ⟨_, rfl⟩
    have hb255 : 0 ≤ b ∧ b ≤ 255 := hb ▸ hok.byte _ (List.getElem_mem hlt)
    have cb' : w.drew.drew.cell? a = some (.int .u8 b) := by rw [cb]; simp only [hb]
    have d1 : w.drew.drew.cell? ⟨p, 1, none⟩ = some (.int .i64 ((s.at_ + k : Nat) : Int)) := h2.blk.cell 1
    have d0 : w.drew.drew.cell? ⟨p, 0, none⟩ = some (.slice q.1 q.2.1 q.2.2) := h2.blk.cell 0
    have hd : s.bs.drop (s.at_ + k) = b :: s.bs.drop (s.at_ + (k + 1)) := by rw [List.drop_eq_getElem_cons hlt, hb]; rfl
    obtain ⟨w3, s3, R3, f3⟩ := h2.put_at (n := s.at_ + (k + 1)) (by simp only; omega)
    have hol := hok.len
    have kw : IntKind.i64.wrap (((s.at_ + k : Nat) : Int) + 1) = ((s.at_ + (k + 1) : Nat) : Int) := by
      simp only at hol
      rw [wrap_i64 (by omega) (by omega)]; omega
    have F3 : Fr [p] W w3 := fr1 (fr1 hF (fr1 fd (Fr.drew [p] w.drew))) f3
    have hm : b.toNat % 128 < 128 := Nat.mod_lt _ (by decide)
    have n63 : (((7 * k : Nat) : Int) == 63) = decide (k = 9) := by
      by_cases h9 : k = 9
      · subst h9; rfl
      · simp only [h9, decide_false]; simp; omega
    have nsg : ¬ (((7 * k : Nat) : Int) < 0) := by omega
    by_cases hc : (k = 9 ∧ 1 < b) ∨ (0 < k ∧ b = 0)
    · obtain ⟨w4, s4, R4, f4⟩ := R3.put_at (n := s.at_) (by simp only; omega)
      obtain ⟨w5, e5, R5, f5⟩ := fail70 R4 7
      have hu : uintS s = (0, { s with e := 7 }) := by
        rw [uintS_of he, hr, hd]; simp only [rdU, if_pos hc, comb]
      refine ⟨.ret, (0, (acc : Int), ((7 * k : Nat) : Int)), w5, ?_, .inr ⟨by simp, rfl, by rw [hu]; rfl, ?_, fr1 (fr1 F3 f4) f5⟩⟩
      · unfold g62_l7_b
        by_cases h9 : k = 9
        · subst h9
          by_cases hb1 : 1 < b
          · have q1 : decide (b > 1) = true := by simp; omega
            simp only [addr_add, Nat.zero_add, c1, c0, k1, d0, d1, i1, cb', kw, s3, n63, decide_true, q1, s4, e5, obs, asP_pointer, asB_bool, asI_int, asS_string, asSl_slice, asM_map, asTup0, asTup1, asTup2, asTup3, asTup4, asTup5, asTup6, asTup7, asTup8, asTup9, asAgg2, asAgg3, asAgg4, asAgg5, asAgg6, asAgg7, asAgg8, asAgg9, asAgg12, getD0, getD1, getD2, getD3, getD4, getD5, getD6, getD7, getD8, getD9, getD10, getD11, getD12, getD13, getD14, getD15, getD16, getD17, getD18, getD19, Bool.not_true, Bool.not_false, Bool.false_eq_true, Bool.true_eq_false, ↓reduceIte, decide_true, decide_false, Option.isNone_some, Option.isNone_none, Option.isSome_some, Option.isSome_none, beq_self_eq_true, bne_self_eq_false, Bool.and_true, Bool.true_and, Bool.and_false, Bool.false_and, not_true_eq_false, not_false_eq_true]
          · have hb0 : b = 0 := by omega
            have q1 : decide (b > 1) = false := by simp; omega
            have q2 : (b == 0) = true := by simp [hb0]
            have q3 : decide (((7 * 9 : Nat) : Int) > 0) = true := by decide
            simp only [addr_add, Nat.zero_add, c1, c0, k1, d0, d1, i1, cb', kw, s3, n63, decide_true, q1, q2, q3, s4, e5, obs, asP_pointer, asB_bool, asI_int, asS_string, asSl_slice, asM_map, asTup0, asTup1, asTup2, asTup3, asTup4, asTup5, asTup6, asTup7, asTup8, asTup9, asAgg2, asAgg3, asAgg4, asAgg5, asAgg6, asAgg7, asAgg8, asAgg9, asAgg12, getD0, getD1, getD2, getD3, getD4, getD5, getD6, getD7, getD8, getD9, getD10, getD11, getD12, getD13, getD14, getD15, getD16, getD17, getD18, getD19, Bool.not_true, Bool.not_false, Bool.false_eq_true, Bool.true_eq_false, ↓reduceIte, decide_true, decide_false, Option.isNone_some, Option.isNone_none, Option.isSome_some, Option.isSome_none, beq_self_eq_true, bne_self_eq_false, Bool.and_true, Bool.true_and, Bool.and_false, Bool.false_and, not_true_eq_false, not_false_eq_true]
        · have hb0 : 0 < k ∧ b = 0 := by rcases hc with hc | hc; exact absurd hc.1 h9; exact hc
          have q2 : (b == 0) = true := by simp [hb0.2]
          have q3 : decide (((7 * k : Nat) : Int) > 0) = true := by simp; omega
          simp only [addr_add, Nat.zero_add, c1, c0, k1, d0, d1, i1, cb', kw, s3, n63, h9, decide_false, q2, q3, s4, e5, obs, asP_pointer, asB_bool, asI_int, asS_string, asSl_slice, asM_map, asTup0, asTup1, asTup2, asTup3, asTup4, asTup5, asTup6, asTup7, asTup8, asTup9, asAgg2, asAgg3, asAgg4, asAgg5, asAgg6, asAgg7, asAgg8, asAgg9, asAgg12, getD0, getD1, getD2, getD3, getD4, getD5, getD6, getD7, getD8, getD9, getD10, getD11, getD12, getD13, getD14, getD15, getD16, getD17, getD18, getD19, Bool.not_true, Bool.not_false, Bool.false_eq_true, Bool.true_eq_false, ↓reduceIte, decide_true, decide_false, Option.isNone_some, Option.isNone_none, Option.isSome_some, Option.isSome_none, beq_self_eq_true, bne_self_eq_false, Bool.and_true, Bool.true_and, Bool.and_false, Bool.false_and, not_true_eq_false, not_false_eq_true]
      · rw [hu]
        have : ({ s with at_ := s.at_ } : RS).fail 7 = { s with e := 7 } := by unfold RS.fail; rw [if_pos he]
        rw [← this]; exact R5
    · have hb9 : k = 9 → b.toNat % 128 ≤ 1 := fun h9 => by
        have : ¬ 1 < b := fun hh => hc (.inl ⟨h9, hh⟩)
        omega
      obtain ⟨v1, v2⟩ := shl_bound ha hk hm hb9
      have hv := or_val hb255 ha hk v1
      have q0 : (k = 9 → decide (b > 1) = false) := fun h9 => by
        have : ¬ 1 < b := fun hh => hc (.inl ⟨h9, hh⟩)
        simp; omega
      by_cases h128 : b < 128
      · have q5 : decide (b < 128) = true := by simp [h128]
        have hu : uintS s = (acc + 2 ^ (7 * k) * (b.toNat % 128), { s with at_ := s.at_ + (k + 1) }) := by
          rw [uintS_of he, hr, hd]
          simp only [rdU, if_neg hc, if_pos h128, comb]
          rw [Nat.mod_eq_of_lt (by omega), Nat.add_comm 1 k]
        refine ⟨.ret, (((acc + 2 ^ (7 * k) * (b.toNat % 128) : Nat) : Int), ((acc + 2 ^ (7 * k) * (b.toNat % 128) : Nat) : Int), ((7 * k : Nat) : Int)), w3, ?_, .inr ⟨by simp, rfl, by rw [hu], by rw [hu]; exact R3, F3⟩⟩
        unfold g62_l7_b
        by_cases h9 : k = 9
        · have q0' := q0 h9
          have q2 : (b == 0) = false := by
            have : ¬ b = 0 := fun hh => hc (.inr ⟨by omega, hh⟩)
            simp [this]
          subst h9
          simp only [addr_add, Nat.zero_add, c1, c0, k1, d0, d1, i1, cb', kw, s3, n63, decide_true, q0', q2, nsg, q5, hv, obs, asP_pointer, asB_bool, asI_int, asS_string, asSl_slice, asM_map, asTup0, asTup1, asTup2, asTup3, asTup4, asTup5, asTup6, asTup7, asTup8, asTup9, asAgg2, asAgg3, asAgg4, asAgg5, asAgg6, asAgg7, asAgg8, asAgg9, asAgg12, getD0, getD1, getD2, getD3, getD4, getD5, getD6, getD7, getD8, getD9, getD10, getD11, getD12, getD13, getD14, getD15, getD16, getD17, getD18, getD19, Bool.not_true, Bool.not_false, Bool.false_eq_true, Bool.true_eq_false, ↓reduceIte, decide_true, decide_false, Option.isNone_some, Option.isNone_none, Option.isSome_some, Option.isSome_none, beq_self_eq_true, bne_self_eq_false, Bool.and_true, Bool.true_and, Bool.and_false, Bool.false_and, not_true_eq_false, not_false_eq_true]
        · by_cases hb0 : b = 0
          · have hk0 : k = 0 := by
              have : ¬ 0 < k := fun hh => hc (.inr ⟨hh, hb0⟩)
              omega
            have q2 : (b == 0) = true := by simp [hb0]
            have q3 : decide (((7 * k : Nat) : Int) > 0) = false := by simp; omega
            simp only [addr_add, Nat.zero_add, c1, c0, k1, d0, d1, i1, cb', kw, s3, n63, h9, decide_false, q2, q3, nsg, q5, hv, obs, asP_pointer, asB_bool, asI_int, asS_string, asSl_slice, asM_map, asTup0, asTup1, asTup2, asTup3, asTup4, asTup5, asTup6, asTup7, asTup8, asTup9, asAgg2, asAgg3, asAgg4, asAgg5, asAgg6, asAgg7, asAgg8, asAgg9, asAgg12, getD0, getD1, getD2, getD3, getD4, getD5, getD6, getD7, getD8, getD9, getD10, getD11, getD12, getD13, getD14, getD15, getD16, getD17, getD18, getD19, Bool.not_true, Bool.not_false, Bool.false_eq_true, Bool.true_eq_false, ↓reduceIte, decide_true, decide_false, Option.isNone_some, Option.isNone_none, Option.isSome_some, Option.isSome_none, beq_self_eq_true, bne_self_eq_false, Bool.and_true, Bool.true_and, Bool.and_false, Bool.false_and, not_true_eq_false, not_false_eq_true]
          · have q2 : (b == 0) = false := by simp [hb0]
            simp only [addr_add, Nat.zero_add, c1, c0, k1, d0, d1, i1, cb', kw, s3, n63, h9, decide_false, q2, nsg, q5, hv, obs, asP_pointer, asB_bool, asI_int, asS_string, asSl_slice, asM_map, asTup0, asTup1, asTup2, asTup3, asTup4, asTup5, asTup6, asTup7, asTup8, asTup9, asAgg2, asAgg3, asAgg4, asAgg5, asAgg6, asAgg7, asAgg8, asAgg9, asAgg12, getD0, getD1, getD2, getD3, getD4, getD5, getD6, getD7, getD8, getD9, getD10, getD11, getD12, getD13, getD14, getD15, getD16, getD17, getD18, getD19, Bool.not_true, Bool.not_false, Bool.false_eq_true, Bool.true_eq_false, ↓reduceIte, decide_true, decide_false, Option.isNone_some, Option.isNone_none, Option.isSome_some, Option.isSome_none, beq_self_eq_true, bne_self_eq_false, Bool.and_true, Bool.true_and, Bool.and_false, Bool.false_and, not_true_eq_false, not_false_eq_true]
      · have h9 : k ≠ 9 := fun h9 => hc (.inl ⟨h9, by omega⟩)
        have q5 : decide (b < 128) = false := by simp; omega
        have q2 : (b == 0) = false := by simp; omega
        have kw7 : IntKind.i64.wrap (((7 * k : Nat) : Int) + 7) = ((7 * (k + 1) : Nat) : Int) := by
          rw [wrap_i64 (by omega) (by omega)]; omega
        refine ⟨.normal, (0, ((acc + 2 ^ (7 * k) * (b.toNat % 128) : Nat) : Int), ((7 * (k + 1) : Nat) : Int)), w3, ?_, .inl ⟨rfl, _, rfl, by omega, v2 (by omega), by omega, R3, F3, ?_⟩⟩
        · unfold g62_l7_b
          simp only [addr_add, Nat.zero_add, c1, c0, k1, d0, d1, i1, cb', kw, s3, n63, h9, decide_false, q2, nsg, q5, hv, kw7, obs, asP_pointer, asB_bool, asI_int, asS_string, asSl_slice, asM_map, asTup0, asTup1, asTup2, asTup3, asTup4, asTup5, asTup6, asTup7, asTup8, asTup9, asAgg2, asAgg3, asAgg4, asAgg5, asAgg6, asAgg7, asAgg8, asAgg9, asAgg12, getD0, getD1, getD2, getD3, getD4, getD5, getD6, getD7, getD8, getD9, getD10, getD11, getD12, getD13, getD14, getD15, getD16, getD17, getD18, getD19, Bool.not_true, Bool.not_false, Bool.false_eq_true, Bool.true_eq_false, ↓reduceIte, decide_true, decide_false, Option.isNone_some, Option.isNone_none, Option.isSome_some, Option.isSome_none, beq_self_eq_true, bne_self_eq_false, Bool.and_true, Bool.true_and, Bool.and_false, Bool.false_and, not_true_eq_false, not_false_eq_true]
        · rw [hr, hd, comb_step hb255 hc h128]
end
end Go.Proofs.Ytjcenfgmpbeldaa

namespace Go.Proofs.Ytjcenfgmpbeldaa
open Go Go.Ev
set_option maxRecDepth 100000
set_option linter.unusedVariables false
set_option linter.unusedSimpArgs false
section
variable {T : TypeId} {w : World} {p : Nat} {q : ShT} {s : RS}

theorem uint58 (h : Rdr 134 w p q s) : ∃ w', callF Try.prog 62 #[.pointer (some ⟨p, 0, none⟩)] w = some (.int .u64 ((uintS s).1 : Int), w') ∧ Rdr 134 w' p q (uintS s).2 ∧ Fr [p] w w' := by
  have c2 : w.cell? ⟨p, 2, none⟩ = some (.int .i64 s.e) := h.blk.cell 2
  have c1 : w.cell? ⟨p, 1, none⟩ = some (.int .i64 (s.at_ : Int)) := h.blk.cell 1
  by_cases he : s.e = 0
  · have k0 : (s.e != 0) = false := by simp [he]
    obtain ⟨e, t, w1, g1, rfl, ht, R, F⟩ := loopS_rule (b := g62_l7_b (some ⟨p, 0, none⟩) (s.at_ : Int)) (n := 10)
      (I := fun k st x => ∃ acc : Nat, st = (0, (acc : Int), ((7 * k : Nat) : Int)) ∧ RdI 134 w p q s (s.at_ + k) k acc x)
      (Q := fun e st x => e = .ret ∧ st.1 = ((uintS s).1 : Int) ∧ Rdr 134 x p q (uintS s).2 ∧ Fr [p] w x)
      (fun k st x hk ⟨acc, hs, hI⟩ => by
        subst hs
        obtain ⟨e, st, w', g, ho⟩ := uint58_round he hI
        exact ⟨e, st, w', g, ho⟩)
      (fun st x ⟨acc, hs, hI⟩ => absurd hI.1 (by decide)) (k := 0) (s := (0, 0, 0)) (w := w) (by omega)
      ⟨0, rfl, by omega, by simp, h.ok.at_, h, Fr.refl _ _, by
        cases rdU (s.bs.drop s.at_) 0 with
        | eof => simp [comb]
        | bad => simp [comb]
        | ok n l => simp [comb]⟩
    refine ⟨w1, g62_call ?_, R, F⟩
    unfold g62
    simp only [addr_add, Nat.zero_add, c2, k0, c1, obs, asP_pointer, asB_bool, asI_int, asS_string, asSl_slice, asM_map, asTup0, asTup1, asTup2, asTup3, asTup4, asTup5, asTup6, asTup7, asTup8, asTup9, asAgg2, asAgg3, asAgg4, asAgg5, asAgg6, asAgg7, asAgg8, asAgg9, asAgg12, getD0, getD1, getD2, getD3, getD4, getD5, getD6, getD7, getD8, getD9, getD10, getD11, getD12, getD13, getD14, getD15, getD16, getD17, getD18, getD19, Bool.not_true, Bool.not_false, Bool.false_eq_true, Bool.true_eq_false, ↓reduceIte, decide_true, decide_false, Option.isNone_some, Option.isNone_none, Option.isSome_some, Option.isSome_none, beq_self_eq_true, bne_self_eq_false, Bool.and_true, Bool.true_and, Bool.and_false, Bool.false_and, not_true_eq_false, not_false_eq_true]
    rw [g62_l7_ret_of g1, g62_l7_ret, ht]
  · have k0 : (s.e != 0) = true := by simp [he]
    have hu : uintS s = (0, s) := by unfold uintS; rw [if_pos he]
    refine ⟨w, g62_call ?_, by rw [hu]; exact h, Fr.refl _ _⟩
    rw [hu]
    unfold g62
    simp only [addr_add, Nat.zero_add, c2, k0, obs, asP_pointer, asB_bool, asI_int, asS_string, asSl_slice, asM_map, asTup0, asTup1, asTup2, asTup3, asTup4, asTup5, asTup6, asTup7, asTup8, asTup9, asAgg2, asAgg3, asAgg4, asAgg5, asAgg6, asAgg7, asAgg8, asAgg9, asAgg12, getD0, getD1, getD2, getD3, getD4, getD5, getD6, getD7, getD8, getD9, getD10, getD11, getD12, getD13, getD14, getD15, getD16, getD17, getD18, getD19, Bool.not_true, Bool.not_false, Bool.false_eq_true, Bool.true_eq_false, ↓reduceIte, decide_true, decide_false, Option.isNone_some, Option.isNone_none, Option.isSome_some, Option.isSome_none, beq_self_eq_true, bne_self_eq_false, Bool.and_true, Bool.true_and, Bool.and_false, Bool.false_and, not_true_eq_false, not_false_eq_true]
    rfl

theorem uint46_round {W : World} {k acc : Nat} (he : s.e = 0) (h : RdI 101 W p q s s.at_ k acc w) :
    ∃ e st w', g59_l4_b (some ⟨p, 0, none⟩) (0, (acc : Int), (k : Int)) w = some (e, st, w') ∧
      (e = .normal ∧ (∃ acc' : Nat, st = (0, (acc' : Int), ((k + 1 : Nat) : Int)) ∧ RdI 101 W p q s s.at_ (k + 1) acc' w') ∨
       e ≠ .normal ∧ e = .ret ∧ st.1 = ((uintS s).1 : Int) ∧ Rdr 101 w' p q (uintS s).2 ∧ Fr [p] W w') := by
  obtain ⟨hk, ha, hat, hR, hF, hr⟩ := h
  have hlen := hR.txt.1
  simp only at hlen
  have hok := hR.ok
  have hol := hok.len
  simp only at hol
  have fd := Fr.drew [p] w
  have fd2 := Fr.drew [p] w.drew
  have h1 := hR.drew
  have h2 := h1.drew
  have k10 : decide ((k : Int) < 10) = true := by simp; omega
  have c1 : w.drew.cell? ⟨p, 1, none⟩ = some (.int .i64 (s.at_ : Int)) := h1.blk.cell 1
  have c0 : w.drew.cell? ⟨p, 0, none⟩ = some (.slice q.1 q.2.1 q.2.2) := h1.blk.cell 0
  have kw : IntKind.i64.wrap ((s.at_ : Int) + (k : Int)) = ((s.at_ + k : Nat) : Int) := by
    rw [wrap_i64 (by omega) (by omega)]; omega
  by_cases hend : s.at_ + k = s.bs.length
  · have k1 : decide (((s.at_ + k : Nat) : Int) ≥ (q.2.1 : Int)) = true := by simp; omega
    obtain ⟨w2, e2, R2, f2⟩ := fail69 h1 6
    have hd : s.bs.drop (s.at_ + k) = [] := List.drop_eq_nil_of_le (by omega)
    have hu : uintS s = (0, { s with e := 6 }) := by
      rw [uintS_of he, hr, hd]; rfl
    refine ⟨.ret, (0, (acc : Int), (k : Int)), w2, ?_, .inr ⟨by simp, rfl, by rw [hu]; rfl, ?_, fr1 (fr1 hF fd) f2⟩⟩
    · unfold g59_l4_b
      simp only [addr_add, Nat.zero_add, k10, c1, c0, kw, k1, e2, obs, asP_pointer, asB_bool, asI_int, asS_string, asSl_slice, asM_map, asTup0, asTup1, asTup2, asTup3, asTup4, asTup5, asTup6, asTup7, asTup8, asTup9, asAgg2, asAgg3, asAgg4, asAgg5, asAgg6, asAgg7, asAgg8, asAgg9, asAgg12, getD0, getD1, getD2, getD3, getD4, getD5, getD6, getD7, getD8, getD9, getD10, getD11, getD12, getD13, getD14, getD15, getD16, getD17, getD18, getD19, Bool.not_true, Bool.not_false, Bool.false_eq_true, Bool.true_eq_false, ↓reduceIte, decide_true, decide_false, Option.isNone_some, Option.isNone_none, Option.isSome_some, Option.isSome_none, beq_self_eq_true, bne_self_eq_false, Bool.and_true, Bool.true_and, Bool.and_false, Bool.false_and, not_true_eq_false, not_false_eq_true]
    · rw [hu]
      have : ({ s with at_ := s.at_ } : RS).fail 6 = { s with e := 6 } := by unfold RS.fail; rw [if_pos he]
      rw [← this]; exact R2
  · have k1 : decide (((s.at_ + k : Nat) : Int) ≥ (q.2.1 : Int)) = false := by simp; omega
    have hlt : s.at_ + k < s.bs.length := by omega
    obtain ⟨a, i1, cb⟩ := h2.txt.get hlt
    obtain ⟨b, hb⟩ : ∃ b, s.bs[s.at_ + k] = b := ⟨_, rfl⟩
    have hb255 : 0 ≤ b ∧ b ≤ 255 := hb ▸ hok.byte _ (List.getElem_mem hlt)
    have cb' : w.drew.drew.cell? a = some (.int .u8 b) := by rw [cb]; simp only [hb]
    have d1 : w.drew.drew.cell? ⟨p, 1, none⟩ = some (.int .i64 (s.at_ : Int)) := h2.blk.cell 1
    have d0 : w.drew.drew.cell? ⟨p, 0, none⟩ = some (.slice q.1 q.2.1 q.2.2) := h2.blk.cell 0
    have hd : s.bs.drop (s.at_ + k) = b :: s.bs.drop (s.at_ + (k + 1)) := by rw [List.drop_eq_getElem_cons hlt, hb]; rfl
    have F3 : Fr [p] W w.drew.drew := fr1 hF (fr1 fd fd2)
    have hm : b.toNat % 128 < 128 := Nat.mod_lt _ (by decide)
    have wb : IntKind.u64.wrap b = b := wrap_u64 (by omega) (by omega)
    have k9 : (((k : Nat) : Int) == 9) = decide (k = 9) := by
      by_cases h9 : k = 9
      · subst h9; rfl
      · simp only [h9, decide_false]; simp; omega
    have nsg : ¬ (IntKind.u64.wrap (IntKind.i64.wrap (7 * (k : Int))) < 0) := by rw [wrap_i64 (by omega) (by omega), wrap_u64 (by omega) (by omega)]; omega
    by_cases hc : (k = 9 ∧ 1 < b) ∨ (0 < k ∧ b = 0)
    · obtain ⟨w5, e5, R5, f5⟩ := fail69 h2 7
      have hu : uintS s = (0, { s with e := 7 }) := by
        rw [uintS_of he, hr, hd]; simp only [rdU, if_pos hc, comb]
      refine ⟨.ret, (0, (acc : Int), (k : Int)), w5, ?_, .inr ⟨by simp, rfl, by rw [hu]; rfl, ?_, fr1 F3 f5⟩⟩
      · unfold g59_l4_b
        by_cases h9 : k = 9
        · subst h9
          by_cases hb1 : 1 < b
          · have q1 : decide (b > 1) = true := by simp; omega
            simp only [addr_add, Nat.zero_add, k10, c1, c0, k1, d0, d1, kw, i1, cb', wb, k9, decide_true, q1, e5, obs, asP_pointer, asB_bool, asI_int, asS_string, asSl_slice, asM_map, asTup0, asTup1, asTup2, asTup3, asTup4, asTup5, asTup6, asTup7, asTup8, asTup9, asAgg2, asAgg3, asAgg4, asAgg5, asAgg6, asAgg7, asAgg8, asAgg9, asAgg12, getD0, getD1, getD2, getD3, getD4, getD5, getD6, getD7, getD8, getD9, getD10, getD11, getD12, getD13, getD14, getD15, getD16, getD17, getD18, getD19, Bool.not_true, Bool.not_false, Bool.false_eq_true, Bool.true_eq_false, ↓reduceIte, decide_true, decide_false, Option.isNone_some, Option.isNone_none, Option.isSome_some, Option.isSome_none, beq_self_eq_true, bne_self_eq_false, Bool.and_true, Bool.true_and, Bool.and_false, Bool.false_and, not_true_eq_false, not_false_eq_true]
          · have hb0 : b = 0 := by omega
            have q1 : decide (b > 1) = false := by simp; omega
            have q2 : (b == 0) = true := by simp [hb0]
            have q3 : decide (((9 : Nat) : Int) > 0) = true := by decide
            simp only [addr_add, Nat.zero_add, k10, c1, c0, k1, d0, d1, kw, i1, cb', wb, k9, decide_true, q1, q2, q3, e5, obs, asP_pointer, asB_bool, asI_int, asS_string, asSl_slice, asM_map, asTup0, asTup1, asTup2, asTup3, asTup4, asTup5, asTup6, asTup7, asTup8, asTup9, asAgg2, asAgg3, asAgg4, asAgg5, asAgg6, asAgg7, asAgg8, asAgg9, asAgg12, getD0, getD1, getD2, getD3, getD4, getD5, getD6, getD7, getD8, getD9, getD10, getD11, getD12, getD13, getD14, getD15, getD16, getD17, getD18, getD19, Bool.not_true, Bool.not_false, Bool.false_eq_true, Bool.true_eq_false, ↓reduceIte, decide_true, decide_false, Option.isNone_some, Option.isNone_none, Option.isSome_some, Option.isSome_none, beq_self_eq_true, bne_self_eq_false, Bool.and_true, Bool.true_and, Bool.and_false, Bool.false_and, not_true_eq_false, not_false_eq_true]
        · have hb0 : 0 < k ∧ b = 0 := by rcases hc with hc | hc; exact absurd hc.1 h9; exact hc
          have q2 : (b == 0) = true := by simp [hb0.2]
          have q3 : decide ((k : Int) > 0) = true := by simp; omega
          simp only [addr_add, Nat.zero_add, k10, c1, c0, k1, d0, d1, kw, i1, cb', wb, k9, h9, decide_false, q2, q3, e5, obs, asP_pointer, asB_bool, asI_int, asS_string, asSl_slice, asM_map, asTup0, asTup1, asTup2, asTup3, asTup4, asTup5, asTup6, asTup7, asTup8, asTup9, asAgg2, asAgg3, asAgg4, asAgg5, asAgg6, asAgg7, asAgg8, asAgg9, asAgg12, getD0, getD1, getD2, getD3, getD4, getD5, getD6, getD7, getD8, getD9, getD10, getD11, getD12, getD13, getD14, getD15, getD16, getD17, getD18, getD19, Bool.not_true, Bool.not_false, Bool.false_eq_true, Bool.true_eq_false, ↓reduceIte, decide_true, decide_false, Option.isNone_some, Option.isNone_none, Option.isSome_some, Option.isSome_none, beq_self_eq_true, bne_self_eq_false, Bool.and_true, Bool.true_and, Bool.and_false, Bool.false_and, not_true_eq_false, not_false_eq_true]
      · rw [hu]
        have : ({ s with at_ := s.at_ } : RS).fail 7 = { s with e := 7 } := by unfold RS.fail; rw [if_pos he]
        rw [← this]; exact R5
    · have hb9 : k = 9 → b.toNat % 128 ≤ 1 := fun h9 => by
        have : ¬ 1 < b := fun hh => hc (.inl ⟨h9, hh⟩)
        omega
      obtain ⟨v1, v2⟩ := shl_bound ha hk hm hb9
      have hv := add_val hb255 hk v1
      rw [wb] at hv
      have q0 : (k = 9 → decide (b > 1) = false) := fun h9 => by
        have : ¬ 1 < b := fun hh => hc (.inl ⟨h9, hh⟩)
        simp; omega
      have q2 : 0 < k → (b == 0) = false := fun h0 => by
        have : ¬ b = 0 := fun hh => hc (.inr ⟨h0, hh⟩)
        simp [this]
      by_cases h128 : b < 128
      · have q5 : decide (b < 128) = true := by simp [h128]
        obtain ⟨w3, s3, R3, f3⟩ := h2.put_at (n := s.at_ + (k + 1)) (by simp only; omega)
        have kw1 : IntKind.i64.wrap (((s.at_ + k : Nat) : Int) + 1) = ((s.at_ + (k + 1) : Nat) : Int) := by
          rw [wrap_i64 (by omega) (by omega)]; omega
        have hu : uintS s = (acc + 2 ^ (7 * k) * (b.toNat % 128), { s with at_ := s.at_ + (k + 1) }) := by
          rw [uintS_of he, hr, hd]
          simp only [rdU, if_neg hc, if_pos h128, comb]
          rw [Nat.mod_eq_of_lt (by omega), Nat.add_comm 1 k]
        refine ⟨.ret, (((acc + 2 ^ (7 * k) * (b.toNat % 128) : Nat) : Int), ((acc + 2 ^ (7 * k) * (b.toNat % 128) : Nat) : Int), (k : Int)), w3, ?_, .inr ⟨by simp, rfl, by rw [hu], by rw [hu]; exact R3, fr1 F3 f3⟩⟩
        unfold g59_l4_b
        by_cases h9 : k = 9
        · have q0' := q0 h9
          have q2' := q2 (by omega)
          subst h9
          have q3 : decide (((9 : Nat) : Int) > 0) = true := by decide
          simp only [addr_add, Nat.zero_add, k10, c1, c0, k1, d0, d1, kw, i1, cb', wb, k9, decide_true, q0', q2', q3, nsg, q5, hv, kw1, s3, obs, asP_pointer, asB_bool, asI_int, asS_string, asSl_slice, asM_map, asTup0, asTup1, asTup2, asTup3, asTup4, asTup5, asTup6, asTup7, asTup8, asTup9, asAgg2, asAgg3, asAgg4, asAgg5, asAgg6, asAgg7, asAgg8, asAgg9, asAgg12, getD0, getD1, getD2, getD3, getD4, getD5, getD6, getD7, getD8, getD9, getD10, getD11, getD12, getD13, getD14, getD15, getD16, getD17, getD18, getD19, Bool.not_true, Bool.not_false, Bool.false_eq_true, Bool.true_eq_false, ↓reduceIte, decide_true, decide_false, Option.isNone_some, Option.isNone_none, Option.isSome_some, Option.isSome_none, beq_self_eq_true, bne_self_eq_false, Bool.and_true, Bool.true_and, Bool.and_false, Bool.false_and, not_true_eq_false, not_false_eq_true]
        · by_cases h0 : 0 < k
          · have q2' := q2 h0
            have q3 : decide ((k : Int) > 0) = true := by simp; omega
            simp only [addr_add, Nat.zero_add, k10, c1, c0, k1, d0, d1, kw, i1, cb', wb, k9, h9, decide_false, q2', q3, nsg, q5, hv, kw1, s3, obs, asP_pointer, asB_bool, asI_int, asS_string, asSl_slice, asM_map, asTup0, asTup1, asTup2, asTup3, asTup4, asTup5, asTup6, asTup7, asTup8, asTup9, asAgg2, asAgg3, asAgg4, asAgg5, asAgg6, asAgg7, asAgg8, asAgg9, asAgg12, getD0, getD1, getD2, getD3, getD4, getD5, getD6, getD7, getD8, getD9, getD10, getD11, getD12, getD13, getD14, getD15, getD16, getD17, getD18, getD19, Bool.not_true, Bool.not_false, Bool.false_eq_true, Bool.true_eq_false, ↓reduceIte, decide_true, decide_false, Option.isNone_some, Option.isNone_none, Option.isSome_some, Option.isSome_none, beq_self_eq_true, bne_self_eq_false, Bool.and_true, Bool.true_and, Bool.and_false, Bool.false_and, not_true_eq_false, not_false_eq_true]
          · have q3 : decide ((k : Int) > 0) = false := by simp; omega
            simp only [addr_add, Nat.zero_add, k10, c1, c0, k1, d0, d1, kw, i1, cb', wb, k9, h9, decide_false, q3, nsg, q5, hv, kw1, s3, obs, asP_pointer, asB_bool, asI_int, asS_string, asSl_slice, asM_map, asTup0, asTup1, asTup2, asTup3, asTup4, asTup5, asTup6, asTup7, asTup8, asTup9, asAgg2, asAgg3, asAgg4, asAgg5, asAgg6, asAgg7, asAgg8, asAgg9, asAgg12, getD0, getD1, getD2, getD3, getD4, getD5, getD6, getD7, getD8, getD9, getD10, getD11, getD12, getD13, getD14, getD15, getD16, getD17, getD18, getD19, Bool.not_true, Bool.not_false, Bool.false_eq_true, Bool.true_eq_false, ↓reduceIte, decide_true, decide_false, Option.isNone_some, Option.isNone_none, Option.isSome_some, Option.isSome_none, beq_self_eq_true, bne_self_eq_false, Bool.and_true, Bool.true_and, Bool.and_false, Bool.false_and, not_true_eq_false, not_false_eq_true]
      · have h9 : k ≠ 9 := fun h9 => hc (.inl ⟨h9, by omega⟩)
        have q5 : decide (b < 128) = false := by simp; omega
        have kw7 := wrap_succ (n := k) (by omega)
        refine ⟨.normal, (0, ((acc + 2 ^ (7 * k) * (b.toNat % 128) : Nat) : Int), ((k + 1 : Nat) : Int)), w.drew.drew, ?_, .inl ⟨rfl, _, rfl, by omega, v2 (by omega), by omega, h2, F3, ?_⟩⟩
        · unfold g59_l4_b
          by_cases h0 : 0 < k
          · have q2' := q2 h0
            have q3 : decide ((k : Int) > 0) = true := by simp; omega
            simp only [addr_add, Nat.zero_add, k10, c1, c0, k1, d0, d1, kw, i1, cb', wb, k9, h9, decide_false, q2', q3, nsg, q5, hv, kw7, obs, asP_pointer, asB_bool, asI_int, asS_string, asSl_slice, asM_map, asTup0, asTup1, asTup2, asTup3, asTup4, asTup5, asTup6, asTup7, asTup8, asTup9, asAgg2, asAgg3, asAgg4, asAgg5, asAgg6, asAgg7, asAgg8, asAgg9, asAgg12, getD0, getD1, getD2, getD3, getD4, getD5, getD6, getD7, getD8, getD9, getD10, getD11, getD12, getD13, getD14, getD15, getD16, getD17, getD18, getD19, Bool.not_true, Bool.not_false, Bool.false_eq_true, Bool.true_eq_false, ↓reduceIte, decide_true, decide_false, Option.isNone_some, Option.isNone_none, Option.isSome_some, Option.isSome_none, beq_self_eq_true, bne_self_eq_false, Bool.and_true, Bool.true_and, Bool.and_false, Bool.false_and, not_true_eq_false, not_false_eq_true]
          · have q3 : decide ((k : Int) > 0) = false := by simp; omega
            simp only [addr_add, Nat.zero_add, k10, c1, c0, k1, d0, d1, kw, i1, cb', wb, k9, h9, decide_false, q3, nsg, q5, hv, kw7, obs, asP_pointer, asB_bool, asI_int, asS_string, asSl_slice, asM_map, asTup0, asTup1, asTup2, asTup3, asTup4, asTup5, asTup6, asTup7, asTup8, asTup9, asAgg2, asAgg3, asAgg4, asAgg5, asAgg6, asAgg7, asAgg8, asAgg9, asAgg12, getD0, getD1, getD2, getD3, getD4, getD5, getD6, getD7, getD8, getD9, getD10, getD11, getD12, getD13, getD14, getD15, getD16, getD17, getD18, getD19, Bool.not_true, Bool.not_false, Bool.false_eq_true, Bool.true_eq_false, ↓reduceIte, decide_true, decide_false, Option.isNone_some, Option.isNone_none, Option.isSome_some, Option.isSome_none, beq_self_eq_true, bne_self_eq_false, Bool.and_true, Bool.true_and, Bool.and_false, Bool.false_and, not_true_eq_false, not_false_eq_true]
        · rw [hr, hd, comb_step hb255 hc h128]

theorem uint46 (h : Rdr 101 w p q s) : ∃ w', callF Try.prog 59 #[.pointer (some ⟨p, 0, none⟩)] w = some (.int .u64 ((uintS s).1 : Int), w') ∧ Rdr 101 w' p q (uintS s).2 ∧ Fr [p] w w' := by
  have c2 : w.cell? ⟨p, 2, none⟩ = some (.int .i64 s.e) := h.blk.cell 2
  by_cases he : s.e = 0
  · have k0 : (s.e != 0) = false := by simp [he]
    obtain ⟨e, t, w1, g1, rfl, ht, R, F⟩ := loopS_rule (b := g59_l4_b (some ⟨p, 0, none⟩)) (n := 10)
      (I := fun k st x => ∃ acc : Nat, st = (0, (acc : Int), (k : Int)) ∧ RdI 101 w p q s s.at_ k acc x)
      (Q := fun e st x => e = .ret ∧ st.1 = ((uintS s).1 : Int) ∧ Rdr 101 x p q (uintS s).2 ∧ Fr [p] w x)
      (fun k st x hk ⟨acc, hs, hI⟩ => by
        subst hs
        obtain ⟨e, st, w', g, ho⟩ := uint46_round he hI
        exact ⟨e, st, w', g, ho⟩)
      (fun st x ⟨acc, hs, hI⟩ => absurd hI.1 (by decide)) (k := 0) (s := (0, 0, 0)) (w := w) (by omega)
      ⟨0, rfl, by omega, by simp, h.ok.at_, h, Fr.refl _ _, by
        cases rdU (s.bs.drop s.at_) 0 with
        | eof => simp [comb]
        | bad => simp [comb]
        | ok n l => simp [comb]⟩
    refine ⟨w1, g59_call ?_, R, F⟩
    unfold g59
    simp only [addr_add, Nat.zero_add, c2, k0, obs, asP_pointer, asB_bool, asI_int, asS_string, asSl_slice, asM_map, asTup0, asTup1, asTup2, asTup3, asTup4, asTup5, asTup6, asTup7, asTup8, asTup9, asAgg2, asAgg3, asAgg4, asAgg5, asAgg6, asAgg7, asAgg8, asAgg9, asAgg12, getD0, getD1, getD2, getD3, getD4, getD5, getD6, getD7, getD8, getD9, getD10, getD11, getD12, getD13, getD14, getD15, getD16, getD17, getD18, getD19, Bool.not_true, Bool.not_false, Bool.false_eq_true, Bool.true_eq_false, ↓reduceIte, decide_true, decide_false, Option.isNone_some, Option.isNone_none, Option.isSome_some, Option.isSome_none, beq_self_eq_true, bne_self_eq_false, Bool.and_true, Bool.true_and, Bool.and_false, Bool.false_and, not_true_eq_false, not_false_eq_true]
    rw [g59_l4_ret_of g1, g59_l4_ret, ht]
  · have k0 : (s.e != 0) = true := by simp [he]
    have hu : uintS s = (0, s) := by unfold uintS; rw [if_pos he]
    refine ⟨w, g59_call ?_, by rw [hu]; exact h, Fr.refl _ _⟩
    rw [hu]
    unfold g59
    simp only [addr_add, Nat.zero_add, c2, k0, obs, asP_pointer, asB_bool, asI_int, asS_string, asSl_slice, asM_map, asTup0, asTup1, asTup2, asTup3, asTup4, asTup5, asTup6, asTup7, asTup8, asTup9, asAgg2, asAgg3, asAgg4, asAgg5, asAgg6, asAgg7, asAgg8, asAgg9, asAgg12, getD0, getD1, getD2, getD3, getD4, getD5, getD6, getD7, getD8, getD9, getD10, getD11, getD12, getD13, getD14, getD15, getD16, getD17, getD18, getD19, Bool.not_true, Bool.not_false, Bool.false_eq_true, Bool.true_eq_false, ↓reduceIte, decide_true, decide_false, Option.isNone_some, Option.isNone_none, Option.isSome_some, Option.isSome_none, beq_self_eq_true, bne_self_eq_false, Bool.and_true, Bool.true_and, Bool.and_false, Bool.false_and, not_true_eq_false, not_false_eq_true]
    rfl

theorem int57 (h : Rdr 134 w p q s) : ∃ w', callF Try.prog 56 #[.pointer (some ⟨p, 0, none⟩)] w = some (.int .i64 (intS s).1, w') ∧ Rdr 134 w' p q (intS s).2 ∧ Fr [p] w w' := by
  obtain ⟨w', e, R, F⟩ := uint58 h
  refine ⟨w', g56_call ?_, R, F⟩
  unfold g56
  simp only [e, obs, asP_pointer, asB_bool, asI_int, asS_string, asSl_slice, asM_map, asTup0, asTup1, asTup2, asTup3, asTup4, asTup5, asTup6, asTup7, asTup8, asTup9, asAgg2, asAgg3, asAgg4, asAgg5, asAgg6, asAgg7, asAgg8, asAgg9, asAgg12, getD0, getD1, getD2, getD3, getD4, getD5, getD6, getD7, getD8, getD9, getD10, getD11, getD12, getD13, getD14, getD15, getD16, getD17, getD18, getD19, Bool.not_true, Bool.not_false, Bool.false_eq_true, Bool.true_eq_false, ↓reduceIte, decide_true, decide_false, Option.isNone_some, Option.isNone_none, Option.isSome_some, Option.isSome_none, beq_self_eq_true, bne_self_eq_false, Bool.and_true, Bool.true_and, Bool.and_false, Bool.false_and, not_true_eq_false, not_false_eq_true]
  rw [zag_bits h.ok.uint.1]; rfl
theorem zag68 (w : World) {n : Nat} (hn : n < 2 ^ 64) : callF Try.prog 80 #[.int .u64 (n : Int)] w = some (.int .i64 (zag n), w) := by
  refine g80_call ?_
  have e1 : Int.tmod (n : Int) 2 = ((n % 2 : Nat) : Int) := by rw [Int.tmod_eq_emod_of_nonneg (by omega)]; omega
  have e2 : Int.tdiv (n : Int) 2 = ((n / 2 : Nat) : Int) := by rw [Int.tdiv_eq_ediv_of_nonneg (by omega)]; omega
  unfold g80 zag
  rw [e1, e2, wrap_u64 (n := ((n / 2 : Nat) : Int)) (by omega) (by omega), wrap_i64 (n := ((n / 2 : Nat) : Int)) (by omega) (by omega), wrap_i64 (n := 0 - ((n / 2 : Nat) : Int)) (by omega) (by omega), wrap_i64 (by omega) (by omega)]
  by_cases h0 : n % 2 = 0
  · rw [if_pos h0, if_pos (by simp; omega)]
  · rw [if_neg h0, if_neg (by simp; omega), Int.zero_sub]
theorem int45 (h : Rdr 101 w p q s) : ∃ w', callF Try.prog 52 #[.pointer (some ⟨p, 0, none⟩)] w = some (.int .i64 (intS s).1, w') ∧ Rdr 101 w' p q (intS s).2 ∧ Fr [p] w w' := by
  obtain ⟨w', e, R, F⟩ := uint46 h
  have e2 := zag68 w' h.ok.uint.1
  refine ⟨w', g52_call ?_, R, F⟩
  unfold g52
  simp only [e, e2, obs, asP_pointer, asB_bool, asI_int, asS_string, asSl_slice, asM_map, asTup0, asTup1, asTup2, asTup3, asTup4, asTup5, asTup6, asTup7, asTup8, asTup9, asAgg2, asAgg3, asAgg4, asAgg5, asAgg6, asAgg7, asAgg8, asAgg9, asAgg12, getD0, getD1, getD2, getD3, getD4, getD5, getD6, getD7, getD8, getD9, getD10, getD11, getD12, getD13, getD14, getD15, getD16, getD17, getD18, getD19, Bool.not_true, Bool.not_false, Bool.false_eq_true, Bool.true_eq_false, ↓reduceIte, decide_true, decide_false, Option.isNone_some, Option.isNone_none, Option.isSome_some, Option.isSome_none, beq_self_eq_true, bne_self_eq_false, Bool.and_true, Bool.true_and, Bool.and_false, Bool.false_and, not_true_eq_false, not_false_eq_true]
  rfl
theorem flag60 (h : Rdr 134 w p q s) : ∃ w', callF Try.prog 63 #[.pointer (some ⟨p, 0, none⟩)] w = some (.bool (flagS s).1, w') ∧ Rdr 134 w' p q (flagS s).2 ∧ Fr [p] w w' := by
  obtain ⟨w1, e, R, F⟩ := uint58 h
  by_cases h1 : 1 < (uintS s).1
  · obtain ⟨w2, e2, R2, f2⟩ := fail70 R 7
    have k1 : decide (((uintS s).1 : Int) > 1) = true := by simp; omega
    have hu : flagS s = (false, (uintS s).2.fail 7) := by unfold flagS; rw [if_pos h1]
    rw [hu]
    refine ⟨w2, g63_call ?_, R2, fr1 F f2⟩
    unfold g63
    simp only [e, k1, e2, obs, asP_pointer, asB_bool, asI_int, asS_string, asSl_slice, asM_map, asTup0, asTup1, asTup2, asTup3, asTup4, asTup5, asTup6, asTup7, asTup8, asTup9, asAgg2, asAgg3, asAgg4, asAgg5, asAgg6, asAgg7, asAgg8, asAgg9, asAgg12, getD0, getD1, getD2, getD3, getD4, getD5, getD6, getD7, getD8, getD9, getD10, getD11, getD12, getD13, getD14, getD15, getD16, getD17, getD18, getD19, Bool.not_true, Bool.not_false, Bool.false_eq_true, Bool.true_eq_false, ↓reduceIte, decide_true, decide_false, Option.isNone_some, Option.isNone_none, Option.isSome_some, Option.isSome_none, beq_self_eq_true, bne_self_eq_false, Bool.and_true, Bool.true_and, Bool.and_false, Bool.false_and, not_true_eq_false, not_false_eq_true]
  · have k1 : decide (((uintS s).1 : Int) > 1) = false := by simp; omega
    have hu : flagS s = ((uintS s).1 == 1, (uintS s).2) := by unfold flagS; rw [if_neg h1]
    have k2 : (((uintS s).1 : Int) == 1) = ((uintS s).1 == 1) := by
      rw [Bool.eq_iff_iff]; simp; omega
    rw [hu]
    refine ⟨w1, g63_call ?_, R, F⟩
    unfold g63
    simp only [e, k1, k2, obs, asP_pointer, asB_bool, asI_int, asS_string, asSl_slice, asM_map, asTup0, asTup1, asTup2, asTup3, asTup4, asTup5, asTup6, asTup7, asTup8, asTup9, asAgg2, asAgg3, asAgg4, asAgg5, asAgg6, asAgg7, asAgg8, asAgg9, asAgg12, getD0, getD1, getD2, getD3, getD4, getD5, getD6, getD7, getD8, getD9, getD10, getD11, getD12, getD13, getD14, getD15, getD16, getD17, getD18, getD19, Bool.not_true, Bool.not_false, Bool.false_eq_true, Bool.true_eq_false, ↓reduceIte, decide_true, decide_false, Option.isNone_some, Option.isNone_none, Option.isSome_some, Option.isSome_none, beq_self_eq_true, bne_self_eq_false, Bool.and_true, Bool.true_and, Bool.and_false, Bool.false_and, not_true_eq_false, not_false_eq_true]
theorem flag48 (h : Rdr 101 w p q s) : ∃ w', callF Try.prog 60 #[.pointer (some ⟨p, 0, none⟩)] w = some (.bool (flagS s).1, w') ∧ Rdr 101 w' p q (flagS s).2 ∧ Fr [p] w w' := by
  obtain ⟨w1, e, R, F⟩ := uint46 h
  by_cases h1 : 1 < (uintS s).1
  · obtain ⟨w2, e2, R2, f2⟩ := fail69 R 7
    have k1 : decide (((uintS s).1 : Int) > 1) = true := by simp; omega
    have hu : flagS s = (false, (uintS s).2.fail 7) := by unfold flagS; rw [if_pos h1]
    rw [hu]
    refine ⟨w2, g60_call ?_, R2, fr1 F f2⟩
    unfold g60
    simp only [e, k1, e2, obs, asP_pointer, asB_bool, asI_int, asS_string, asSl_slice, asM_map, asTup0, asTup1, asTup2, asTup3, asTup4, asTup5, asTup6, asTup7, asTup8, asTup9, asAgg2, asAgg3, asAgg4, asAgg5, asAgg6, asAgg7, asAgg8, asAgg9, asAgg12, getD0, getD1, getD2, getD3, getD4, getD5, getD6, getD7, getD8, getD9, getD10, getD11, getD12, getD13, getD14, getD15, getD16, getD17, getD18, getD19, Bool.not_true, Bool.not_false, Bool.false_eq_true, Bool.true_eq_false, ↓reduceIte, decide_true, decide_false, Option.isNone_some, Option.isNone_none, Option.isSome_some, Option.isSome_none, beq_self_eq_true, bne_self_eq_false, Bool.and_true, Bool.true_and, Bool.and_false, Bool.false_and, not_true_eq_false, not_false_eq_true]
  · have k1 : decide (((uintS s).1 : Int) > 1) = false := by simp; omega
    have hu : flagS s = ((uintS s).1 == 1, (uintS s).2) := by unfold flagS; rw [if_neg h1]
    have k2 : (((uintS s).1 : Int) == 1) = ((uintS s).1 == 1) := by
      rw [Bool.eq_iff_iff]; simp; omega
    rw [hu]
    refine ⟨w1, g60_call ?_, R, F⟩
    unfold g60
    simp only [e, k1, k2, obs, asP_pointer, asB_bool, asI_int, asS_string, asSl_slice, asM_map, asTup0, asTup1, asTup2, asTup3, asTup4, asTup5, asTup6, asTup7, asTup8, asTup9, asAgg2, asAgg3, asAgg4, asAgg5, asAgg6, asAgg7, asAgg8, asAgg9, asAgg12, getD0, getD1, getD2, getD3, getD4, getD5, getD6, getD7, getD8, getD9, getD10, getD11, getD12, getD13, getD14, getD15, getD16, getD17, getD18, getD19, Bool.not_true, Bool.not_false, Bool.false_eq_true, Bool.true_eq_false, ↓reduceIte, decide_true, decide_false, Option.isNone_some, Option.isNone_none, Option.isSome_some, Option.isSome_none, beq_self_eq_true, bne_self_eq_false, Bool.and_true, Bool.true_and, Bool.and_false, Bool.false_and, not_true_eq_false, not_false_eq_true]
theorem end61 (h : Rdr 134 w p q s) : callF Try.prog 58 #[.pointer (some ⟨p, 0, none⟩)] w = some (.int .i64 (endS s), w.drew) := by
  have hd := h.drew
  have c0 : w.drew.cell? ⟨p, 0, none⟩ = some (.slice q.1 q.2.1 q.2.2) := hd.blk.cell 0
  have c1 : w.drew.cell? ⟨p, 1, none⟩ = some (.int .i64 (s.at_ : Int)) := hd.blk.cell 1
  have c2 : w.drew.cell? ⟨p, 2, none⟩ = some (.int .i64 s.e) := hd.blk.cell 2
  have hl := h.txt.1
  refine g58_call ?_
  by_cases he : s.e = 0
  · have k0 : (s.e == 0) = true := by simp [he]
    by_cases h1 : s.at_ < s.bs.length
    · have k1 : decide ((s.at_ : Int) < (q.2.1 : Int)) = true := by simp; omega
      have hE : endS s = 6 := by unfold endS; rw [if_pos ⟨he, h1⟩]
      rw [hE]
      unfold g58
      simp only [addr_add, Nat.zero_add, c2, k0, c1, c0, k1, obs, asP_pointer, asB_bool, asI_int, asS_string, asSl_slice, asM_map, asTup0, asTup1, asTup2, asTup3, asTup4, asTup5, asTup6, asTup7, asTup8, asTup9, asAgg2, asAgg3, asAgg4, asAgg5, asAgg6, asAgg7, asAgg8, asAgg9, asAgg12, getD0, getD1, getD2, getD3, getD4, getD5, getD6, getD7, getD8, getD9, getD10, getD11, getD12, getD13, getD14, getD15, getD16, getD17, getD18, getD19, Bool.not_true, Bool.not_false, Bool.false_eq_true, Bool.true_eq_false, ↓reduceIte, decide_true, decide_false, Option.isNone_some, Option.isNone_none, Option.isSome_some, Option.isSome_none, beq_self_eq_true, bne_self_eq_false, Bool.and_true, Bool.true_and, Bool.and_false, Bool.false_and, not_true_eq_false, not_false_eq_true]
    · have k1 : decide ((s.at_ : Int) < (q.2.1 : Int)) = false := by simp; omega
      have hE : endS s = s.e := by unfold endS; rw [if_neg (fun hh => h1 hh.2)]
      rw [hE]
      unfold g58
      simp only [addr_add, Nat.zero_add, c2, k0, c1, c0, k1, obs, asP_pointer, asB_bool, asI_int, asS_string, asSl_slice, asM_map, asTup0, asTup1, asTup2, asTup3, asTup4, asTup5, asTup6, asTup7, asTup8, asTup9, asAgg2, asAgg3, asAgg4, asAgg5, asAgg6, asAgg7, asAgg8, asAgg9, asAgg12, getD0, getD1, getD2, getD3, getD4, getD5, getD6, getD7, getD8, getD9, getD10, getD11, getD12, getD13, getD14, getD15, getD16, getD17, getD18, getD19, Bool.not_true, Bool.not_false, Bool.false_eq_true, Bool.true_eq_false, ↓reduceIte, decide_true, decide_false, Option.isNone_some, Option.isNone_none, Option.isSome_some, Option.isSome_none, beq_self_eq_true, bne_self_eq_false, Bool.and_true, Bool.true_and, Bool.and_false, Bool.false_and, not_true_eq_false, not_false_eq_true]
  · have k0 : (s.e == 0) = false := by simp [he]
    have hE : endS s = s.e := by unfold endS; rw [if_neg (fun hh => he hh.1)]
    rw [hE]
    unfold g58
    simp only [addr_add, Nat.zero_add, c2, k0, obs, asP_pointer, asB_bool, asI_int, asS_string, asSl_slice, asM_map, asTup0, asTup1, asTup2, asTup3, asTup4, asTup5, asTup6, asTup7, asTup8, asTup9, asAgg2, asAgg3, asAgg4, asAgg5, asAgg6, asAgg7, asAgg8, asAgg9, asAgg12, getD0, getD1, getD2, getD3, getD4, getD5, getD6, getD7, getD8, getD9, getD10, getD11, getD12, getD13, getD14, getD15, getD16, getD17, getD18, getD19, Bool.not_true, Bool.not_false, Bool.false_eq_true, Bool.true_eq_false, ↓reduceIte, decide_true, decide_false, Option.isNone_some, Option.isNone_none, Option.isSome_some, Option.isSome_none, beq_self_eq_true, bne_self_eq_false, Bool.and_true, Bool.true_and, Bool.and_false, Bool.false_and, not_true_eq_false, not_false_eq_true]
theorem end49 (h : Rdr 101 w p q s) : callF Try.prog 54 #[.pointer (some ⟨p, 0, none⟩)] w = some (.int .i64 (endS s), w.drew) := by
  have hd := h.drew
  have c0 : w.drew.cell? ⟨p, 0, none⟩ = some (.slice q.1 q.2.1 q.2.2) := hd.blk.cell 0
  have c1 : w.drew.cell? ⟨p, 1, none⟩ = some (.int .i64 (s.at_ : Int)) := hd.blk.cell 1
  have c2 : w.drew.cell? ⟨p, 2, none⟩ = some (.int .i64 s.e) := hd.blk.cell 2
  have hl := h.txt.1
  refine g54_call ?_
  by_cases he : s.e = 0
  · have k0 : (s.e == 0) = true := by simp [he]
    by_cases h1 : s.at_ < s.bs.length
    · have k1 : decide ((s.at_ : Int) < (q.2.1 : Int)) = true := by simp; omega
      have hE : endS s = 6 := by unfold endS; rw [if_pos ⟨he, h1⟩]
      rw [hE]
      unfold g54
      simp only [addr_add, Nat.zero_add, c2, k0, c1, c0, k1, obs, asP_pointer, asB_bool, asI_int, asS_string, asSl_slice, asM_map, asTup0, asTup1, asTup2, asTup3, asTup4, asTup5, asTup6, asTup7, asTup8, asTup9, asAgg2, asAgg3, asAgg4, asAgg5, asAgg6, asAgg7, asAgg8, asAgg9, asAgg12, getD0, getD1, getD2, getD3, getD4, getD5, getD6, getD7, getD8, getD9, getD10, getD11, getD12, getD13, getD14, getD15, getD16, getD17, getD18, getD19, Bool.not_true, Bool.not_false, Bool.false_eq_true, Bool.true_eq_false, ↓reduceIte, decide_true, decide_false, Option.isNone_some, Option.isNone_none, Option.isSome_some, Option.isSome_none, beq_self_eq_true, bne_self_eq_false, Bool.and_true, Bool.true_and, Bool.and_false, Bool.false_and, not_true_eq_false, not_false_eq_true]
    · have k1 : decide ((s.at_ : Int) < (q.2.1 : Int)) = false := by simp; omega
      have hE : endS s = s.e := by unfold endS; rw [if_neg (fun hh => h1 hh.2)]
      rw [hE]
      unfold g54
      simp only [addr_add, Nat.zero_add, c2, k0, c1, c0, k1, obs, asP_pointer, asB_bool, asI_int, asS_string, asSl_slice, asM_map, asTup0, asTup1, asTup2, asTup3, asTup4, asTup5, asTup6, asTup7, asTup8, asTup9, asAgg2, asAgg3, asAgg4, asAgg5, asAgg6, asAgg7, asAgg8, asAgg9, asAgg12, getD0, getD1, getD2, getD3, getD4, getD5, getD6, getD7, getD8, getD9, getD10, getD11, getD12, getD13, getD14, getD15, getD16, getD17, getD18, getD19, Bool.not_true, Bool.not_false, Bool.false_eq_true, Bool.true_eq_false, ↓reduceIte, decide_true, decide_false, Option.isNone_some, Option.isNone_none, Option.isSome_some, Option.isSome_none, beq_self_eq_true, bne_self_eq_false, Bool.and_true, Bool.true_and, Bool.and_false, Bool.false_and, not_true_eq_false, not_false_eq_true]
  · have k0 : (s.e == 0) = false := by simp [he]
    have hE : endS s = s.e := by unfold endS; rw [if_neg (fun hh => he hh.1)]
    rw [hE]
    unfold g54
    simp only [addr_add, Nat.zero_add, c2, k0, obs, asP_pointer, asB_bool, asI_int, asS_string, asSl_slice, asM_map, asTup0, asTup1, asTup2, asTup3, asTup4, asTup5, asTup6, asTup7, asTup8, asTup9, asAgg2, asAgg3, asAgg4, asAgg5, asAgg6, asAgg7, asAgg8, asAgg9, asAgg12, getD0, getD1, getD2, getD3, getD4, getD5, getD6, getD7, getD8, getD9, getD10, getD11, getD12, getD13, getD14, getD15, getD16, getD17, getD18, getD19, Bool.not_true, Bool.not_false, Bool.false_eq_true, Bool.true_eq_false, ↓reduceIte, decide_true, decide_false, Option.isNone_some, Option.isNone_none, Option.isSome_some, Option.isSome_none, beq_self_eq_true, bne_self_eq_false, Bool.and_true, Bool.true_and, Bool.and_false, Bool.false_and, not_true_eq_false, not_false_eq_true]
end
end Go.Proofs.Ytjcenfgmpbeldaa

namespace Go.Proofs.Ytjcenfgmpbeldaa
open Go Go.Ev
set_option maxRecDepth 100000
set_option linter.unusedVariables false
set_option linter.unusedSimpArgs false
abbrev numsV (l : List Int) : List Value := l.map (Value.int .i64)
theorem t28' : TSl Try.prog 28 3 1 8 := tsl_of Try.underlying28 (by kernel_rfl)
section
variable {T : TypeId} {w : World} {p : Nat} {q : ShT} {s : RS}

/-- a byte behind what is there -/
theorem put1 {v : ShT} {xs : List Int} (h : Own w 5 1 v (bytesV xs)) (b : Int) (hl : xs.length ≤ 1099511627776) : ∃ v1 w1, callB Try.prog .append #[43, 43] 43 #[false, false] #[.slice v.1 v.2.1 v.2.2, .slice (some ⟨w.heap.size, 0, none⟩) 1 1] (w.alloc (.cells #[.int .u8 b] 5)) = some (.slice v1.1 v1.2.1 v1.2.2, w1) ∧
    Own w1 5 1 v1 (bytesV (xs ++ [b])) ∧ Fr (blkOf v) w w1 ∧ (∀ y ∈ blkOf v1, y ∈ blkOf v ∨ w.heap.size ≤ y) := by
  have hml : maxLen = 9223372036854775807 := by decide
  have hlen := h.len
  simp at hlen
  obtain ⟨v1, w1, e1, o1, f1, n1, m1⟩ := app_one t58 h (ys := [.int .u8 b]) rfl (by intro y hy; simp at hy; subst hy; rfl) (by omega) (by omega) 43 #[false, false]
  exact ⟨v1, w1, e1, by simpa [bytesV] using o1, f1, n1⟩
/-- bytes behind what is there -/
theorem puts1 {v u : ShT} {xs ys : List Int} (h : Own w 5 1 v (bytesV xs)) (hu : Own w 5 1 u (bytesV ys)) (hl : xs.length ≤ 1099511627776) (hl2 : ys.length ≤ 1099511627776) : ∃ v1 w1, callB Try.prog .append #[43, 43] 43 #[false, false] #[.slice v.1 v.2.1 v.2.2, .slice u.1 u.2.1 u.2.2] w = some (.slice v1.1 v1.2.1 v1.2.2, w1) ∧
    Own w1 5 1 v1 (bytesV (xs ++ ys)) ∧ Fr (blkOf v) w w1 ∧ (∀ y ∈ blkOf v1, y ∈ blkOf v ∨ w.heap.size ≤ y) := by
  have hml : maxLen = 9223372036854775807 := by decide
  have hlen := h.len
  simp at hlen
  have hlen2 := hu.len
  simp at hlen2
  obtain ⟨v1, w1, e1, o1, f1, n1, m1⟩ := app_sl t58 h hu.slC (bytes_oc ys) (by omega) (by omega) 43 #[false, false]
  exact ⟨v1, w1, e1, by simpa [bytesV] using o1, f1, n1⟩

theorem fr_new {W w w1 : World} {v : ShT} (hW : Fr [] W w) (hn : ∀ y ∈ blkOf v, W.heap.size ≤ y) (f : Fr (blkOf v) w w1) : Fr [] W w1 :=
  (hW.app f).mono (by intro y hy hl; simp at hy; have := hn y hy; omega)

theorem zig67 (w : World) {z : Int} (hz : -9223372036854775808 ≤ z ∧ z ≤ 9223372036854775807) : callF Try.prog 79 #[.int .i64 z] w = some (.int .u64 (zig z : Int), w) := by
  refine g79_call ?_
  have ew : ∀ n : Int, IntKind.u64.wrap n = n % 18446744073709551616 := fun n => by simp [IntKind.wrap, IntKind.bits, IntKind.signed]
  unfold g79 zig
  by_cases h0 : 0 ≤ z
  · have k0 : decide (z ≥ 0) = true := by simp [h0]
    rw [if_pos h0]
    simp only [k0, if_true, ew]
    congr 3
    omega
  · have k0 : decide (z ≥ 0) = false := by simp; omega
    rw [if_neg h0, wrap_i64 (n := z + 1) (by omega) (by omega), wrap_i64 (by omega) (by omega)]
    simp only [k0, Bool.false_eq_true, if_false, ew]
    congr 3
    omega

theorem uint42 (w : World) {n : Nat} (hn : n < 2 ^ 64) : ∃ v w', callF Try.prog 65 #[.int .u64 (n : Int)] w = some (.slice v.1 v.2.1 v.2.2, w') ∧ Own w' 5 1 v (bytesV (encU n)) ∧ Fr [] w w' ∧ ∀ y ∈ blkOf v, w.heap.size ≤ y := by
  have h10 := encU_len10 hn
  obtain ⟨e, t, w1, g1, rfl, o, f, nn⟩ := loopS_meas (b := g65_l1_b) (fun s => s.1.toNat)
    (I := fun s x => ∃ (m : Nat) (v : ShT) (xs : List Int), s = ((m : Int), (none, 0, 0), v) ∧ m < 2 ^ 64 ∧ xs ++ encU m = encU n ∧ Own x 5 1 v (bytesV xs) ∧ Fr [] w x ∧ (∀ y ∈ blkOf v, w.heap.size ≤ y) ∧ (n = m ∨ 0 < m))
    (Q := fun e s x => e = .ret ∧ Own x 5 1 s.2.1 (bytesV (encU n)) ∧ Fr [] w x ∧ ∀ y ∈ blkOf s.2.1, w.heap.size ≤ y)
    (fun s x ⟨m, v, xs, hs, hm, hx, o, f, nv, h0⟩ => by
      subst hs
      have hxl : xs.length + (encU m).length = (encU n).length := by rw [← List.length_append, hx]
      have hp := encU_pos m
      have e1 : IntKind.u64.wrap (Int.tdiv (m : Int) 128) = ((m / 128 : Nat) : Int) := by
        rw [Int.tdiv_eq_ediv_of_nonneg (by omega), wrap_u64 (by omega) (by omega)]; omega
      have e2 : Int.tmod (m : Int) 128 = ((m % 128 : Nat) : Int) := by rw [Int.tmod_eq_emod_of_nonneg (by omega)]; omega
      have e3 : IntKind.u8.wrap ((m % 128 : Nat) : Int) = ((m % 128 : Nat) : Int) := wr8 (by omega)
      have e4 : IntKind.u8.wrap (IntKind.u64.wrap (((m % 128 : Nat) : Int) + 128)) = ((m % 128 + 128 : Nat) : Int) := by
        rw [wrap_u64 (by omega) (by omega), wr8 (by omega)]; omega
      by_cases hk : m < 128
      · have k0 : (((m / 128 : Nat) : Int) == 0) = true := by simp; omega
        obtain ⟨v1, w1, g1, o1, f1, n1⟩ := put1 o ((m % 128 : Nat) : Int) (by omega)
        rw [encU_lt hk] at hx
        rw [show ((m % 128 : Nat) : Int) = (m : Int) by omega, hx] at o1
        refine ⟨.ret, (((m / 128 : Nat) : Int), v1, v1), w1, ?_, .inr ⟨by simp, rfl, o1, fr_new f nv f1, fun y hy => ?_⟩⟩
        · unfold g65_l1_b
          simp only [e1, e2, e3, k0, g1, obs, asP_pointer, asB_bool, asI_int, asS_string, asSl_slice, asM_map, asTup0, asTup1, asTup2, asTup3, asTup4, asTup5, asTup6, asTup7, asTup8, asTup9, asAgg2, asAgg3, asAgg4, asAgg5, asAgg6, asAgg7, asAgg8, asAgg9, asAgg12, getD0, getD1, getD2, getD3, getD4, getD5, getD6, getD7, getD8, getD9, getD10, getD11, getD12, getD13, getD14, getD15, getD16, getD17, getD18, getD19, Bool.not_true, Bool.not_false, Bool.false_eq_true, Bool.true_eq_false, ↓reduceIte, decide_true, decide_false, Option.isNone_some, Option.isNone_none, Option.isSome_some, Option.isSome_none, beq_self_eq_true, bne_self_eq_false, Bool.and_true, Bool.true_and, Bool.and_false, Bool.false_and, not_true_eq_false, not_false_eq_true]
        · have := f.size
          rcases n1 y hy with h | h
          · exact nv y h
          · omega
      · have k0 : (((m / 128 : Nat) : Int) == 0) = false := by simp; omega
        obtain ⟨v1, w1, g1, o1, f1, n1⟩ := put1 o ((m % 128 + 128 : Nat) : Int) (by omega)
        rw [encU_ge hk] at hx
        refine ⟨.normal, (((m / 128 : Nat) : Int), (none, 0, 0), v1), w1, ?_, .inl ⟨rfl, ⟨m / 128, v1, xs ++ [((m % 128 + 128 : Nat) : Int)], rfl, by omega, by rw [← hx]; simp, o1, fr_new f nv f1, fun y hy => ?_, .inr (by omega)⟩, by simp; omega⟩⟩
        · unfold g65_l1_b
          simp only [e1, e2, e4, k0, g1, obs, asP_pointer, asB_bool, asI_int, asS_string, asSl_slice, asM_map, asTup0, asTup1, asTup2, asTup3, asTup4, asTup5, asTup6, asTup7, asTup8, asTup9, asAgg2, asAgg3, asAgg4, asAgg5, asAgg6, asAgg7, asAgg8, asAgg9, asAgg12, getD0, getD1, getD2, getD3, getD4, getD5, getD6, getD7, getD8, getD9, getD10, getD11, getD12, getD13, getD14, getD15, getD16, getD17, getD18, getD19, Bool.not_true, Bool.not_false, Bool.false_eq_true, Bool.true_eq_false, ↓reduceIte, decide_true, decide_false, Option.isNone_some, Option.isNone_none, Option.isSome_some, Option.isSome_none, beq_self_eq_true, bne_self_eq_false, Bool.and_true, Bool.true_and, Bool.and_false, Bool.false_and, not_true_eq_false, not_false_eq_true]
        · have := f.size
          rcases n1 y hy with h | h
          · exact nv y h
          · omega) (s := ((n : Int), (none, 0, 0), (none, 0, 0))) (w := w) ⟨n, (none, 0, 0), [], rfl, hn, rfl, Own.nil _ _ _, Fr.refl _ _, by simp [blkOf], .inl rfl⟩
  refine ⟨t.2.1, w1, g65_call ?_, o, f, nn⟩
  unfold g65
  rw [g65_l1_ret_of g1, g65_l1_ret]

theorem int41 (w : World) {z : Int} (hz : -9223372036854775808 ≤ z ∧ z ≤ 9223372036854775807) : ∃ v w', callF Try.prog 50 #[.int .i64 z] w = some (.slice v.1 v.2.1 v.2.2, w') ∧ Own w' 5 1 v (bytesV (encI z)) ∧ Fr [] w w' ∧ ∀ y ∈ blkOf v, w.heap.size ≤ y := by
  obtain ⟨v, w', e, o, f, n⟩ := uint42 w (zig_lt hz)
  have e1 := zig67 w hz
  refine ⟨v, w', g50_call ?_, o, f, n⟩
  unfold g50
  simp only [e1, e, obs, asP_pointer, asB_bool, asI_int, asS_string, asSl_slice, asM_map, asTup0, asTup1, asTup2, asTup3, asTup4, asTup5, asTup6, asTup7, asTup8, asTup9, asAgg2, asAgg3, asAgg4, asAgg5, asAgg6, asAgg7, asAgg8, asAgg9, asAgg12, getD0, getD1, getD2, getD3, getD4, getD5, getD6, getD7, getD8, getD9, getD10, getD11, getD12, getD13, getD14, getD15, getD16, getD17, getD18, getD19, Bool.not_true, Bool.not_false, Bool.false_eq_true, Bool.true_eq_false, ↓reduceIte, decide_true, decide_false, Option.isNone_some, Option.isNone_none, Option.isSome_some, Option.isSome_none, beq_self_eq_true, bne_self_eq_false, Bool.and_true, Bool.true_and, Bool.and_false, Bool.false_and, not_true_eq_false, not_false_eq_true]
theorem flag44 (w : World) (b : Bool) : ∃ v w', callF Try.prog 66 #[.bool b] w = some (.slice v.1 v.2.1 v.2.2, w') ∧ Own w' 5 1 v (bytesV (encF b)) ∧ Fr [] w w' ∧ ∀ y ∈ blkOf v, w.heap.size ≤ y := by
  refine ⟨(some ⟨w.heap.size, 0, none⟩, 1, 1), w.alloc (.cells #[.int .u8 (if b then 1 else 0)] 5), g66_call ?_, ⟨rfl, Nat.le_refl _, by show 1 ≤ maxLen; decide, .inr ⟨w.heap.size, 0, _, rfl, alloc_blk_new _, by simp, by simp [encF, bytesV]⟩⟩, Fr.alloc _, by simp [blkOf]⟩
  unfold g66
  cases b <;> rfl
theorem ints43 {u : ShT} {l : List Int} (hu : SlI .i64 w u l) (hz : ∀ z ∈ l, -9223372036854775808 ≤ z ∧ z ≤ 9223372036854775807) (hll : l.length ≤ 10000000) :
    ∃ v w', callF Try.prog 51 #[.slice u.1 u.2.1 u.2.2] w = some (.slice v.1 v.2.1 v.2.2, w') ∧ Own w' 5 1 v (bytesV (encL l)) ∧ Fr [] w w' ∧ ∀ y ∈ blkOf v, w.heap.size ≤ y := by
  have hul := hu.1
  obtain ⟨v1, w1, e1, o1, f1, n1⟩ := uint42 w (n := l.length) (by omega)
  have h10 := encU_len10 (n := l.length) (by omega)
  have hw : IntKind.u64.wrap (u.2.1 : Int) = (l.length : Int) := by rw [wrap_u64 (by omega) (by omega)]; omega
  have hu' : ∀ {x : World}, Fr [] w x → SlI .i64 x u l := fun hf => hu.fr3 hf (by simp)
  obtain ⟨t, w2, g1, v2, rfl, o2, f2, n2⟩ := loopS_countX 0 (b := g51_l4_b u) (I := fun k s x => ∃ v2 : ShT, s = (v2, (k : Int)) ∧ Own x 5 1 v2 (bytesV (encU l.length ++ ((l.take k).map encI).flatten)) ∧ Fr [] w x ∧ ∀ y ∈ blkOf v2, w.heap.size ≤ y) (n := l.length)
    (fun k s x hk ⟨v2, hs, o2, f2, n2⟩ => by
      subst hs
      obtain ⟨a, i1, c1⟩ := (hu' f2).get hk
      have hfl := flat_lenW (l.take k) (fun z hz' => hz z (List.mem_of_mem_take hz'))
      simp only [List.length_take] at hfl
      have hzk := hz l[k] (List.getElem_mem hk)
      have h2 : (encI l[k]).length ≤ 10 := encU_len10 (zig_lt hzk)
      obtain ⟨v3, x1, e3, o3, f3, n3⟩ := int41 x hzk
      obtain ⟨v4, x2, e4, o4, f4, n4⟩ := puts1 (o2.fr f3 (by simp)) o3 (by simp only [List.length_append]; omega) (by omega)
      have k1 : decide ((k : Int) < (u.2.1 : Int)) = true := by simp; omega
      have kw := wrap_succ (n := k) (by omega)
      have F3 : Fr [] w x1 := (Fr.mono (Fr.app f2 f3) (by have z0_ := Fr.size f2; have z1_ := Fr.size f3; intro y_ hy_ hl_; grind [blkOf]))
      refine ⟨_, x2, ?_, v4, rfl, ?_, fr_new F3 n2 f4, fun y hy => ?_⟩
      · unfold g51_l4_b
        simp only [k1, i1, c1, e3, e4, kw, obs, asP_pointer, asB_bool, asI_int, asS_string, asSl_slice, asM_map, asTup0, asTup1, asTup2, asTup3, asTup4, asTup5, asTup6, asTup7, asTup8, asTup9, asAgg2, asAgg3, asAgg4, asAgg5, asAgg6, asAgg7, asAgg8, asAgg9, asAgg12, getD0, getD1, getD2, getD3, getD4, getD5, getD6, getD7, getD8, getD9, getD10, getD11, getD12, getD13, getD14, getD15, getD16, getD17, getD18, getD19, Bool.not_true, Bool.not_false, Bool.false_eq_true, Bool.true_eq_false, ↓reduceIte, decide_true, decide_false, Option.isNone_some, Option.isNone_none, Option.isSome_some, Option.isSome_none, beq_self_eq_true, bne_self_eq_false, Bool.and_true, Bool.true_and, Bool.and_false, Bool.false_and, not_true_eq_false, not_false_eq_true]
      · have : ((l.take (k + 1)).map encI).flatten = ((l.take k).map encI).flatten ++ encI l[k] := by
          rw [List.take_succ_eq_append_getElem hk, List.map_append, List.flatten_append]; simp
        rw [this, ← List.append_assoc]; exact o4
      · have := F3.size
        rcases n4 y hy with h | h
        · exact n2 y h
        · omega)
    (fun s x ⟨v2, hs, _⟩ => by
      subst hs
      unfold g51_l4_b
      have k1 : decide ((l.length : Int) < (u.2.1 : Int)) = false := by simp; omega
      simp only [k1, Bool.false_eq_true, if_false]) (k := 0) (s := (v1, 0)) (w := w1) (Nat.zero_le _) ⟨v1, rfl, by simpa using o1, f1, n1⟩
  rw [List.take_length] at o2
  refine ⟨v2, w2, g51_call ?_, o2, f2, n2⟩
  unfold g51
  rw [hw]
  simp only [e1, obs, asP_pointer, asB_bool, asI_int, asS_string, asSl_slice, asM_map, asTup0, asTup1, asTup2, asTup3, asTup4, asTup5, asTup6, asTup7, asTup8, asTup9, asAgg2, asAgg3, asAgg4, asAgg5, asAgg6, asAgg7, asAgg8, asAgg9, asAgg12, getD0, getD1, getD2, getD3, getD4, getD5, getD6, getD7, getD8, getD9, getD10, getD11, getD12, getD13, getD14, getD15, getD16, getD17, getD18, getD19, Bool.not_true, Bool.not_false, Bool.false_eq_true, Bool.true_eq_false, ↓reduceIte, decide_true, decide_false, Option.isNone_some, Option.isNone_none, Option.isSome_some, Option.isSome_none, beq_self_eq_true, bne_self_eq_false, Bool.and_true, Bool.true_and, Bool.and_false, Bool.false_and, not_true_eq_false, not_false_eq_true]
  rw [g51_l4_x0_of g1, g51_l4_x0]

theorem new56 {u : ShT} {bs : List Int} (hu : SlI .u8 w u bs) (hb : ∀ b ∈ bs, 0 ≤ b ∧ b ≤ 255) (hl : bs.length ≤ 140737488351232) : ∃ p v w', callF Try.prog 55 #[.slice u.1 u.2.1 u.2.2] w = some (.pointer (some ⟨p, 0, none⟩), w') ∧
    Rdr 134 w' p v ⟨bs, 0, 0⟩ ∧ Fr [] w w' ∧ w.heap.size ≤ p ∧ ∀ y ∈ blkOf v, w.heap.size ≤ y := by
  have hml : maxLen = 9223372036854775807 := by decide
  have hul := hu.1
  obtain ⟨v, w1, e, o, f, n, _⟩ := app_nil t58 hu.slC (bytes_oc bs) (by omega) (by omega) 43 #[true, false]
  have fa : Fr [] w1 (w1.alloc (.cells #[.slice v.1 v.2.1 v.2.2, .int .i64 0, .int .i64 0] 134)) := Fr.alloc _
  refine ⟨w1.heap.size, v, w1.alloc (.cells #[.slice v.1 v.2.1 v.2.2, .int .i64 0, .int .i64 0] 134), g55_call ?_, ⟨Blk.new w1 [.slice v.1 v.2.1 v.2.2, .int .i64 0, .int .i64 0] 134, ?_, fun _ hy => ?_, ⟨hb, by simp, by simp only; omega⟩⟩, (Fr.mono (Fr.app f fa) (by have z0_ := Fr.size f; have z1_ := Fr.size fa; intro y_ hy_ hl_; grind [blkOf])), f.size, n⟩
  · unfold g55
    simp only [e, obs, asP_pointer, asB_bool, asI_int, asS_string, asSl_slice, asM_map, asTup0, asTup1, asTup2, asTup3, asTup4, asTup5, asTup6, asTup7, asTup8, asTup9, asAgg2, asAgg3, asAgg4, asAgg5, asAgg6, asAgg7, asAgg8, asAgg9, asAgg12, getD0, getD1, getD2, getD3, getD4, getD5, getD6, getD7, getD8, getD9, getD10, getD11, getD12, getD13, getD14, getD15, getD16, getD17, getD18, getD19, Bool.not_true, Bool.not_false, Bool.false_eq_true, Bool.true_eq_false, ↓reduceIte, decide_true, decide_false, Option.isNone_some, Option.isNone_none, Option.isSome_some, Option.isSome_none, beq_self_eq_true, bne_self_eq_false, Bool.and_true, Bool.true_and, Bool.and_false, Bool.false_and, not_true_eq_false, not_false_eq_true]
  · exact ((o.fr fa (by simp)).slC).ints
  · have := o.lt _ hy; omega

theorem ints59 (h : Rdr 134 w p q s) : ∃ v w', callF Try.prog 57 #[.pointer (some ⟨p, 0, none⟩)] w = some (.slice v.1 v.2.1 v.2.2, w') ∧ Own w' 3 1 v (numsV (intsS s).1) ∧ Rdr 134 w' p q (intsS s).2 ∧ Fr [p] w w' ∧ ∀ y ∈ blkOf v, w.heap.size ≤ y := by
  have hml : maxLen = 9223372036854775807 := by decide
  have hq : 0 < q.2.1 → ∀ y ∈ blkOf q, y < w.heap.size := fun h0 y hy => h.txt.slC.lt (by have := h.txt.1; simp; omega) y hy
  obtain ⟨w1, e1, R1, f1⟩ := uint58 h
  have hlp := h.blk.lt
  by_cases h4 : 4096 < (uintS s).1
  · obtain ⟨w2, e2, R2, f2⟩ := fail70 R1 2
    have hu : intsS s = ([], (uintS s).2.fail 2) := by unfold intsS; rw [if_pos h4]
    have k1 : decide (((uintS s).1 : Int) > 4096) = true := by simp; omega
    rw [hu]
    refine ⟨(none, 0, 0), w2, g57_call ?_, Own.nil _ _ _, R2, fr1 f1 f2, by simp [blkOf]⟩
    unfold g57
    simp only [e1, k1, e2, obs, asP_pointer, asB_bool, asI_int, asS_string, asSl_slice, asM_map, asTup0, asTup1, asTup2, asTup3, asTup4, asTup5, asTup6, asTup7, asTup8, asTup9, asAgg2, asAgg3, asAgg4, asAgg5, asAgg6, asAgg7, asAgg8, asAgg9, asAgg12, getD0, getD1, getD2, getD3, getD4, getD5, getD6, getD7, getD8, getD9, getD10, getD11, getD12, getD13, getD14, getD15, getD16, getD17, getD18, getD19, Bool.not_true, Bool.not_false, Bool.false_eq_true, Bool.true_eq_false, ↓reduceIte, decide_true, decide_false, Option.isNone_some, Option.isNone_none, Option.isSome_some, Option.isSome_none, beq_self_eq_true, bne_self_eq_false, Bool.and_true, Bool.true_and, Bool.and_false, Bool.false_and, not_true_eq_false, not_false_eq_true]
  · have k1 : decide (((uintS s).1 : Int) > 4096) = false := by simp; omega
    have hu : intsS s = intsL (uintS s).1 (uintS s).2 [] := by unfold intsS; rw [if_neg h4]
    obtain ⟨N, hN⟩ : ∃ N, (uintS s).1 = N := ⟨_, rfl⟩
    obtain ⟨s1, hs1⟩ : ∃ s1, (uintS s).2 = s1 := ⟨_, rfl⟩
    rw [hN, hs1] at hu
    rw [hN] at e1 k1 h4
    rw [hs1] at R1
    obtain ⟨e, t, w2, g1, hQ⟩ := loopS_rule (b := g57_l4_b (N : Int) (some ⟨p, 0, none⟩)) (n := N)
      (I := fun k st x => ∃ (v : ShT) (acc : List Int) (s' : RS), st = ((none, 0, 0), v, (k : Int)) ∧ Own x 3 1 v (numsV acc) ∧ (∀ y ∈ blkOf v, w.heap.size ≤ y) ∧ Rdr 134 x p q s' ∧ acc.length = k ∧ k ≤ N ∧ intsL N s1 [] = intsL (N - k) s' acc ∧ Fr [p] w x)
      (Q := fun e st x => (e = .ret ∧ st.1 = (none, 0, 0) ∧ (intsL N s1 []).1 = [] ∨ e = .exit 0 ∧ Own x 3 1 st.2.1 (numsV (intsL N s1 []).1) ∧ ∀ y ∈ blkOf st.2.1, w.heap.size ≤ y) ∧ Rdr 134 x p q (intsL N s1 []).2 ∧ Fr [p] w x)
      (fun k st x hk ⟨v, acc, s', hs, o, n, R, hal, _, hI, F⟩ => by
        subst hs
        obtain ⟨x1, e2, R2, f2⟩ := int57 R
        have k0 : decide ((k : Int) < (N : Int)) = true := by simp; omega
        have c2 : x1.cell? ⟨p, 2, none⟩ = some (.int .i64 (intS s').2.e) := R2.blk.cell 2
        have hNk : N - k = (N - (k + 1)) + 1 := by omega
        rw [hNk] at hI
        simp only [intsL] at hI
        by_cases he : (intS s').2.e = 0
        · have k2 : ((intS s').2.e != 0) = false := by simp [he]
          have hzx : w.heap.size ≤ x.heap.size := F.size
          have hpv : p ∉ blkOf v := fun hm => by have := n p hm; omega
          have o1 := o.fr f2 (by intro y hy hm; simp at hm; subst hm; exact hpv hy)
          have ol := o.len
          simp at ol
          obtain ⟨v1, x2, e3, o3, f3, n3, m3⟩ := app_one t28' o1 (ys := [.int .i64 (intS s').1]) rfl (by intro y hy; simp at hy; subst hy; rfl) (by omega) (by omega) 28 #[false, false]
          have hlp2 := R2.blk.lt
          have R3 := R2.fr f3 hpv (fun h0 y hy hm => by have := n y hm; have := hq h0 y hy; omega)
          have kw : IntKind.u64.wrap ((k : Int) + 1) = ((k + 1 : Nat) : Int) := by rw [wrap_u64 (by omega) (by omega)]; omega
          rw [if_neg (by simp [he])] at hI
          refine ⟨.normal, ((none, 0, 0), v1, ((k + 1 : Nat) : Int)), x2, ?_, .inl ⟨rfl, v1, acc ++ [(intS s').1], (intS s').2, rfl, by simpa [numsV] using o3, fun y hy => ?_, R3, by simp [hal], by omega, hI, ?_⟩⟩
          · unfold g57_l4_b
            simp only [k0, e2, addr_add, Nat.zero_add, c2, k2, e3, kw, obs, asP_pointer, asB_bool, asI_int, asS_string, asSl_slice, asM_map, asTup0, asTup1, asTup2, asTup3, asTup4, asTup5, asTup6, asTup7, asTup8, asTup9, asAgg2, asAgg3, asAgg4, asAgg5, asAgg6, asAgg7, asAgg8, asAgg9, asAgg12, getD0, getD1, getD2, getD3, getD4, getD5, getD6, getD7, getD8, getD9, getD10, getD11, getD12, getD13, getD14, getD15, getD16, getD17, getD18, getD19, Bool.not_true, Bool.not_false, Bool.false_eq_true, Bool.true_eq_false, ↓reduceIte, decide_true, decide_false, Option.isNone_some, Option.isNone_none, Option.isSome_some, Option.isSome_none, beq_self_eq_true, bne_self_eq_false, Bool.and_true, Bool.true_and, Bool.and_false, Bool.false_and, not_true_eq_false, not_false_eq_true]
          · have := f2.size
            rcases n3 y hy with h | h
            · exact n y h
            · omega
          · exact (fr1 F f2 |>.app f3).mono (by
              intro y hy hl
              rcases List.mem_append.mp hy with hy | hy
              · exact hy
              · have := n y hy; omega)
        · have k2 : ((intS s').2.e != 0) = true := by simp [he]
          rw [if_pos he] at hI
          refine ⟨.ret, ((none, 0, 0), v, (k : Int)), x1, ?_, .inr ⟨by simp, .inl ⟨rfl, rfl, by rw [hI]⟩, by rw [hI]; exact R2, fr1 F f2⟩⟩
          unfold g57_l4_b
          simp only [k0, e2, addr_add, Nat.zero_add, c2, k2, obs, asP_pointer, asB_bool, asI_int, asS_string, asSl_slice, asM_map, asTup0, asTup1, asTup2, asTup3, asTup4, asTup5, asTup6, asTup7, asTup8, asTup9, asAgg2, asAgg3, asAgg4, asAgg5, asAgg6, asAgg7, asAgg8, asAgg9, asAgg12, getD0, getD1, getD2, getD3, getD4, getD5, getD6, getD7, getD8, getD9, getD10, getD11, getD12, getD13, getD14, getD15, getD16, getD17, getD18, getD19, Bool.not_true, Bool.not_false, Bool.false_eq_true, Bool.true_eq_false, ↓reduceIte, decide_true, decide_false, Option.isNone_some, Option.isNone_none, Option.isSome_some, Option.isSome_none, beq_self_eq_true, bne_self_eq_false, Bool.and_true, Bool.true_and, Bool.and_false, Bool.false_and, not_true_eq_false, not_false_eq_true])
      (fun st x ⟨v, acc, s', hs, o, n, R, hal, _, hI, F⟩ => by
        subst hs
        rw [Nat.sub_self] at hI
        simp only [intsL] at hI
        refine ⟨.exit 0, ((none, 0, 0), v, (N : Int)), x, ?_, by simp, .inr ⟨rfl, by rw [hI]; exact o, n⟩, by rw [hI]; exact R, F⟩
        unfold g57_l4_b
        have k0 : decide ((N : Int) < (N : Int)) = false := by simp
        simp only [k0, Bool.false_eq_true, if_false]) (k := 0) (s := ((none, 0, 0), (none, 0, 0), 0)) (w := w1) (Nat.zero_le _)
      ⟨(none, 0, 0), [], s1, rfl, Own.nil _ _ _, by simp [blkOf], R1, rfl, Nat.zero_le _, by simp, f1⟩
    rw [hu]
    obtain ⟨hv, R2, F2⟩ := hQ
    rcases hv with ⟨rfl, ht, hnil⟩ | ⟨rfl, o, n⟩
    · refine ⟨(none, 0, 0), w2, g57_call ?_, by rw [hnil]; exact Own.nil _ _ _, R2, F2, by simp [blkOf]⟩
      unfold g57
      simp only [e1, k1, obs, asP_pointer, asB_bool, asI_int, asS_string, asSl_slice, asM_map, asTup0, asTup1, asTup2, asTup3, asTup4, asTup5, asTup6, asTup7, asTup8, asTup9, asAgg2, asAgg3, asAgg4, asAgg5, asAgg6, asAgg7, asAgg8, asAgg9, asAgg12, getD0, getD1, getD2, getD3, getD4, getD5, getD6, getD7, getD8, getD9, getD10, getD11, getD12, getD13, getD14, getD15, getD16, getD17, getD18, getD19, Bool.not_true, Bool.not_false, Bool.false_eq_true, Bool.true_eq_false, ↓reduceIte, decide_true, decide_false, Option.isNone_some, Option.isNone_none, Option.isSome_some, Option.isSome_none, beq_self_eq_true, bne_self_eq_false, Bool.and_true, Bool.true_and, Bool.and_false, Bool.false_and, not_true_eq_false, not_false_eq_true]
      rw [g57_l4_ret_of g1, g57_l4_ret, ht]
    · refine ⟨t.2.1, w2, g57_call ?_, o, R2, F2, n⟩
      unfold g57
      simp only [e1, k1, obs, asP_pointer, asB_bool, asI_int, asS_string, asSl_slice, asM_map, asTup0, asTup1, asTup2, asTup3, asTup4, asTup5, asTup6, asTup7, asTup8, asTup9, asAgg2, asAgg3, asAgg4, asAgg5, asAgg6, asAgg7, asAgg8, asAgg9, asAgg12, getD0, getD1, getD2, getD3, getD4, getD5, getD6, getD7, getD8, getD9, getD10, getD11, getD12, getD13, getD14, getD15, getD16, getD17, getD18, getD19, Bool.not_true, Bool.not_false, Bool.false_eq_true, Bool.true_eq_false, ↓reduceIte, decide_true, decide_false, Option.isNone_some, Option.isNone_none, Option.isSome_some, Option.isSome_none, beq_self_eq_true, bne_self_eq_false, Bool.and_true, Bool.true_and, Bool.and_false, Bool.false_and, not_true_eq_false, not_false_eq_true]
      rw [g57_l4_x0_of g1, g57_l4_x0]

theorem ints47 (h : Rdr 101 w p q s) : ∃ v w', callF Try.prog 53 #[.pointer (some ⟨p, 0, none⟩)] w = some (.slice v.1 v.2.1 v.2.2, w') ∧ Own w' 3 1 v (numsV (intsS s).1) ∧ Rdr 101 w' p q (intsS s).2 ∧ Fr [p] w w' ∧ ∀ y ∈ blkOf v, w.heap.size ≤ y := by
  have hml : maxLen = 9223372036854775807 := by decide
  have hq : 0 < q.2.1 → ∀ y ∈ blkOf q, y < w.heap.size := fun h0 y hy => h.txt.slC.lt (by have := h.txt.1; simp; omega) y hy
  obtain ⟨w1, e1, R1, f1⟩ := uint46 h
  have hlp := h.blk.lt
  have hle0 : (uintS s).2.e ≠ 0 → (uintS s).1 = 0 := by
    by_cases h0 : s.e = 0
    · rw [uintS_of h0]
      cases rdU (s.bs.drop s.at_) 0 with
      | eof => intro _; rfl
      | bad => intro _; rfl
      | ok n l => intro hh; exact absurd h0 hh
    · intro _
      unfold uintS
      rw [if_pos h0]
  have c2 : w1.cell? ⟨p, 2, none⟩ = some (.int .i64 (uintS s).2.e) := R1.blk.cell 2
  by_cases he : (uintS s).2.e = 0
  · have k2 : ((uintS s).2.e == 0) = true := by simp [he]
    have k2' : ((uintS s).2.e != 0) = false := by simp [he]
    by_cases h4 : 4096 < (uintS s).1
    · obtain ⟨w2, e2, R2, f2⟩ := fail69 R1 2
      have hu : intsS s = ([], (uintS s).2.fail 2) := by unfold intsS; rw [if_pos h4]
      have k1 : decide (((uintS s).1 : Int) > 4096) = true := by simp; omega
      have d2 : w2.cell? ⟨p, 2, none⟩ = some (.int .i64 2) := by
        have := R2.blk.cell 2
        have h2 : ((uintS s).2.fail 2).e = 2 := by unfold RS.fail; simp [he]
        rw [h2] at this
        exact this
      have k3 : ((2 : Int) != 0) = true := rfl
      rw [hu]
      refine ⟨(none, 0, 0), w2, g53_call ?_, Own.nil _ _ _, R2, fr1 f1 f2, by simp [blkOf]⟩
      unfold g53
      simp only [e1, addr_add, Nat.zero_add, c2, k2, k1, e2, g53_j3, d2, k3, obs, asP_pointer, asB_bool, asI_int, asS_string, asSl_slice, asM_map, asTup0, asTup1, asTup2, asTup3, asTup4, asTup5, asTup6, asTup7, asTup8, asTup9, asAgg2, asAgg3, asAgg4, asAgg5, asAgg6, asAgg7, asAgg8, asAgg9, asAgg12, getD0, getD1, getD2, getD3, getD4, getD5, getD6, getD7, getD8, getD9, getD10, getD11, getD12, getD13, getD14, getD15, getD16, getD17, getD18, getD19, Bool.not_true, Bool.not_false, Bool.false_eq_true, Bool.true_eq_false, ↓reduceIte, decide_true, decide_false, Option.isNone_some, Option.isNone_none, Option.isSome_some, Option.isSome_none, beq_self_eq_true, bne_self_eq_false, Bool.and_true, Bool.true_and, Bool.and_false, Bool.false_and, not_true_eq_false, not_false_eq_true]
    · have k1 : decide (((uintS s).1 : Int) > 4096) = false := by simp; omega
      have hu : intsS s = intsL (uintS s).1 (uintS s).2 [] := by unfold intsS; rw [if_neg h4]
      obtain ⟨N, hN⟩ : ∃ N, (uintS s).1 = N := ⟨_, rfl⟩
      obtain ⟨s1, hs1⟩ : ∃ s1, (uintS s).2 = s1 := ⟨_, rfl⟩
      rw [hN, hs1] at hu
      rw [hN] at e1 k1 h4
      rw [hs1] at R1 c2 k2 k2' he
      have wN : IntKind.i64.wrap (N : Int) = (N : Int) := wrap_i64 (by omega) (by omega)
      obtain ⟨e, t, w2, g1, rfl, s', hO, R2, F2⟩ := loopS_rule (b := g53_l12_b (N : Int) (some ⟨p, 0, none⟩)) (n := N)
        (I := fun k st x => ∃ (v : ShT) (acc : List Int) (s' : RS), st = (v, (k : Int)) ∧ Own x 3 1 v (numsV acc) ∧ (∀ y ∈ blkOf v, w.heap.size ≤ y) ∧ Rdr 101 x p q s' ∧ acc.length = k ∧ k ≤ N ∧ (s'.e = 0 ∧ intsL N s1 [] = intsL (N - k) s' acc ∨ s'.e ≠ 0 ∧ intsL N s1 [] = ([], s')) ∧ Fr [p] w x)
        (Q := fun e st x => e = .exit 0 ∧ ∃ s' : RS, (s'.e = 0 ∧ (∃ acc, intsL N s1 [] = (acc, s') ∧ Own x 3 1 st.1 (numsV acc)) ∧ (∀ y ∈ blkOf st.1, w.heap.size ≤ y) ∨ s'.e ≠ 0 ∧ intsL N s1 [] = ([], s')) ∧ Rdr 101 x p q s' ∧ Fr [p] w x)
        (fun k st x hk ⟨v, acc, s', hs, o, n, R, hal, _, hI, F⟩ => by
          subst hs
          have k0 : decide ((k : Int) < (N : Int)) = true := by simp; omega
          have c2 : x.cell? ⟨p, 2, none⟩ = some (.int .i64 s'.e) := R.blk.cell 2
          rcases hI with ⟨he', hI⟩ | ⟨he', hI⟩
          · have k3 : (s'.e == 0) = true := by simp [he']
            obtain ⟨x1, e2, R2, f2⟩ := int45 R
            have hNk : N - k = (N - (k + 1)) + 1 := by omega
            rw [hNk] at hI
            simp only [intsL] at hI
            have hzx : w.heap.size ≤ x.heap.size := F.size
            have hpv : p ∉ blkOf v := fun hm => by have := n p hm; omega
            have o1 := o.fr f2 (by intro y hy hm; simp at hm; subst hm; exact hpv hy)
            have ol := o.len
            simp at ol
            obtain ⟨v1, x2, e3, o3, f3, n3, m3⟩ := app_one t28' o1 (ys := [.int .i64 (intS s').1]) rfl (by intro y hy; simp at hy; subst hy; rfl) (by omega) (by omega) 28 #[false, false]
            have R3 := R2.fr f3 hpv (fun h0 y hy hm => by have := n y hm; have := hq h0 y hy; omega)
            have kw := wrap_succ (n := k) (by omega)
            refine ⟨.normal, (v1, ((k + 1 : Nat) : Int)), x2, ?_, .inl ⟨rfl, v1, acc ++ [(intS s').1], (intS s').2, rfl, by simpa [numsV] using o3, fun y hy => ?_, R3, by simp [hal], by omega, ?_, ?_⟩⟩
            · unfold g53_l12_b
              simp only [wN, k0, addr_add, Nat.zero_add, c2, k3, e2, e3, kw, obs, asP_pointer, asB_bool, asI_int, asS_string, asSl_slice, asM_map, asTup0, asTup1, asTup2, asTup3, asTup4, asTup5, asTup6, asTup7, asTup8, asTup9, asAgg2, asAgg3, asAgg4, asAgg5, asAgg6, asAgg7, asAgg8, asAgg9, asAgg12, getD0, getD1, getD2, getD3, getD4, getD5, getD6, getD7, getD8, getD9, getD10, getD11, getD12, getD13, getD14, getD15, getD16, getD17, getD18, getD19, Bool.not_true, Bool.not_false, Bool.false_eq_true, Bool.true_eq_false, ↓reduceIte, decide_true, decide_false, Option.isNone_some, Option.isNone_none, Option.isSome_some, Option.isSome_none, beq_self_eq_true, bne_self_eq_false, Bool.and_true, Bool.true_and, Bool.and_false, Bool.false_and, not_true_eq_false, not_false_eq_true]
            · have := f2.size
              rcases n3 y hy with h | h
              · exact n y h
              · omega
            · by_cases he2 : (intS s').2.e = 0
              · exact .inl ⟨he2, by rw [hI, if_neg (by simp [he2])]⟩
              · exact .inr ⟨he2, by rw [hI, if_pos he2]⟩
            · exact (fr1 F f2 |>.app f3).mono (by
                intro y hy hl
                rcases List.mem_append.mp hy with hy | hy
                · exact hy
                · have := n y hy; omega)
          · have k3 : (s'.e == 0) = false := by simp [he']
            refine ⟨.exit 0, (v, (k : Int)), x, ?_, .inr ⟨by simp, rfl, s', .inr ⟨he', hI⟩, R, F⟩⟩
            unfold g53_l12_b
            simp only [wN, k0, addr_add, Nat.zero_add, c2, k3, obs, asP_pointer, asB_bool, asI_int, asS_string, asSl_slice, asM_map, asTup0, asTup1, asTup2, asTup3, asTup4, asTup5, asTup6, asTup7, asTup8, asTup9, asAgg2, asAgg3, asAgg4, asAgg5, asAgg6, asAgg7, asAgg8, asAgg9, asAgg12, getD0, getD1, getD2, getD3, getD4, getD5, getD6, getD7, getD8, getD9, getD10, getD11, getD12, getD13, getD14, getD15, getD16, getD17, getD18, getD19, Bool.not_true, Bool.not_false, Bool.false_eq_true, Bool.true_eq_false, ↓reduceIte, decide_true, decide_false, Option.isNone_some, Option.isNone_none, Option.isSome_some, Option.isSome_none, beq_self_eq_true, bne_self_eq_false, Bool.and_true, Bool.true_and, Bool.and_false, Bool.false_and, not_true_eq_false, not_false_eq_true])
        (fun st x ⟨v, acc, s', hs, o, n, R, hal, _, hI, F⟩ => by
          subst hs
          refine ⟨.exit 0, (v, (N : Int)), x, ?_, by simp, rfl, s', ?_, R, F⟩
          · unfold g53_l12_b
            have k0 : decide ((N : Int) < (N : Int)) = false := by simp
            simp only [wN, k0, Bool.false_eq_true, if_false]
          · rcases hI with ⟨he', hI⟩ | ⟨he', hI⟩
            · rw [Nat.sub_self] at hI
              exact .inl ⟨he', ⟨acc, hI, o⟩, n⟩
            · exact .inr ⟨he', hI⟩) (k := 0) (s := ((none, 0, 0), 0)) (w := w1) (Nat.zero_le _)
        ⟨(none, 0, 0), [], s1, rfl, Own.nil _ _ _, by simp [blkOf], R1, rfl, Nat.zero_le _, .inl ⟨he, by simp⟩, f1⟩
      rw [hu]
      have d2 : w2.cell? ⟨p, 2, none⟩ = some (.int .i64 s'.e) := R2.blk.cell 2
      rcases hO with ⟨he', ⟨acc, hI, o⟩, n⟩ | ⟨he', hI⟩
      · have k3 : (s'.e != 0) = false := by simp [he']
        rw [hI]
        refine ⟨t.1, w2, g53_call ?_, o, R2, F2, n⟩
        unfold g53
        simp only [e1, addr_add, Nat.zero_add, c2, k2, k1, g53_j3, k2', obs, asP_pointer, asB_bool, asI_int, asS_string, asSl_slice, asM_map, asTup0, asTup1, asTup2, asTup3, asTup4, asTup5, asTup6, asTup7, asTup8, asTup9, asAgg2, asAgg3, asAgg4, asAgg5, asAgg6, asAgg7, asAgg8, asAgg9, asAgg12, getD0, getD1, getD2, getD3, getD4, getD5, getD6, getD7, getD8, getD9, getD10, getD11, getD12, getD13, getD14, getD15, getD16, getD17, getD18, getD19, Bool.not_true, Bool.not_false, Bool.false_eq_true, Bool.true_eq_false, ↓reduceIte, decide_true, decide_false, Option.isNone_some, Option.isNone_none, Option.isSome_some, Option.isSome_none, beq_self_eq_true, bne_self_eq_false, Bool.and_true, Bool.true_and, Bool.and_false, Bool.false_and, not_true_eq_false, not_false_eq_true]
        rw [g53_l12_x0_of g1]
        unfold g53_l12_x0
        simp only [addr_add, Nat.zero_add, d2, k3, obs, asP_pointer, asB_bool, asI_int, asS_string, asSl_slice, asM_map, asTup0, asTup1, asTup2, asTup3, asTup4, asTup5, asTup6, asTup7, asTup8, asTup9, asAgg2, asAgg3, asAgg4, asAgg5, asAgg6, asAgg7, asAgg8, asAgg9, asAgg12, getD0, getD1, getD2, getD3, getD4, getD5, getD6, getD7, getD8, getD9, getD10, getD11, getD12, getD13, getD14, getD15, getD16, getD17, getD18, getD19, Bool.not_true, Bool.not_false, Bool.false_eq_true, Bool.true_eq_false, ↓reduceIte, decide_true, decide_false, Option.isNone_some, Option.isNone_none, Option.isSome_some, Option.isSome_none, beq_self_eq_true, bne_self_eq_false, Bool.and_true, Bool.true_and, Bool.and_false, Bool.false_and, not_true_eq_false, not_false_eq_true]
      · have k3 : (s'.e != 0) = true := by simp [he']
        rw [hI]
        refine ⟨(none, 0, 0), w2, g53_call ?_, Own.nil _ _ _, R2, F2, by simp [blkOf]⟩
        unfold g53
        simp only [e1, addr_add, Nat.zero_add, c2, k2, k1, g53_j3, k2', obs, asP_pointer, asB_bool, asI_int, asS_string, asSl_slice, asM_map, asTup0, asTup1, asTup2, asTup3, asTup4, asTup5, asTup6, asTup7, asTup8, asTup9, asAgg2, asAgg3, asAgg4, asAgg5, asAgg6, asAgg7, asAgg8, asAgg9, asAgg12, getD0, getD1, getD2, getD3, getD4, getD5, getD6, getD7, getD8, getD9, getD10, getD11, getD12, getD13, getD14, getD15, getD16, getD17, getD18, getD19, Bool.not_true, Bool.not_false, Bool.false_eq_true, Bool.true_eq_false, ↓reduceIte, decide_true, decide_false, Option.isNone_some, Option.isNone_none, Option.isSome_some, Option.isSome_none, beq_self_eq_true, bne_self_eq_false, Bool.and_true, Bool.true_and, Bool.and_false, Bool.false_and, not_true_eq_false, not_false_eq_true]
        rw [g53_l12_x0_of g1]
        unfold g53_l12_x0
        simp only [addr_add, Nat.zero_add, d2, k3, obs, asP_pointer, asB_bool, asI_int, asS_string, asSl_slice, asM_map, asTup0, asTup1, asTup2, asTup3, asTup4, asTup5, asTup6, asTup7, asTup8, asTup9, asAgg2, asAgg3, asAgg4, asAgg5, asAgg6, asAgg7, asAgg8, asAgg9, asAgg12, getD0, getD1, getD2, getD3, getD4, getD5, getD6, getD7, getD8, getD9, getD10, getD11, getD12, getD13, getD14, getD15, getD16, getD17, getD18, getD19, Bool.not_true, Bool.not_false, Bool.false_eq_true, Bool.true_eq_false, ↓reduceIte, decide_true, decide_false, Option.isNone_some, Option.isNone_none, Option.isSome_some, Option.isSome_none, beq_self_eq_true, bne_self_eq_false, Bool.and_true, Bool.true_and, Bool.and_false, Bool.false_and, not_true_eq_false, not_false_eq_true]
  · have hn0 := hle0 he
    have k2 : ((uintS s).2.e == 0) = false := by simp [he]
    have k2' : ((uintS s).2.e != 0) = true := by simp [he]
    have hu : intsS s = ([], (uintS s).2) := by unfold intsS; rw [if_neg (by omega), hn0]; rfl
    rw [hu]
    refine ⟨(none, 0, 0), w1, g53_call ?_, Own.nil _ _ _, R1, f1, by simp [blkOf]⟩
    unfold g53
    simp only [e1, addr_add, Nat.zero_add, c2, k2, g53_j3, k2', obs, asP_pointer, asB_bool, asI_int, asS_string, asSl_slice, asM_map, asTup0, asTup1, asTup2, asTup3, asTup4, asTup5, asTup6, asTup7, asTup8, asTup9, asAgg2, asAgg3, asAgg4, asAgg5, asAgg6, asAgg7, asAgg8, asAgg9, asAgg12, getD0, getD1, getD2, getD3, getD4, getD5, getD6, getD7, getD8, getD9, getD10, getD11, getD12, getD13, getD14, getD15, getD16, getD17, getD18, getD19, Bool.not_true, Bool.not_false, Bool.false_eq_true, Bool.true_eq_false, ↓reduceIte, decide_true, decide_false, Option.isNone_some, Option.isNone_none, Option.isSome_some, Option.isSome_none, beq_self_eq_true, bne_self_eq_false, Bool.and_true, Bool.true_and, Bool.and_false, Bool.false_and, not_true_eq_false, not_false_eq_true]
end
end Go.Proofs.Ytjcenfgmpbeldaa

namespace Go.Proofs.Ytjcenfgmpbeldaa
open Go Go.Ev
set_option maxRecDepth 100000
set_option linter.unusedVariables false
set_option linter.unusedSimpArgs false

theorem same30 {w : World} {u v : ShT} {xs : List Int} (hu : SlI .u8 w u xs) (hv : SlI .u8 w v xs) (hl : xs.length ≤ 4611686018427387904) : ∃ w', callF Try.prog 28 #[.slice u.1 u.2.1 u.2.2, .slice v.1 v.2.1 v.2.2] w = some (.bool true, w') ∧ Fr [] w w' := by
  have h1 := hu.1
  have h2 := hv.1
  obtain ⟨t, w', g1, rfl, f⟩ := loopS_countX 0 (b := g28_l3_b u v) (I := fun k s x => s = (false, (k : Int)) ∧ Fr [] w x) (n := xs.length)
    (fun k s x hk ⟨hs, f⟩ => by
      subst hs
      have fx := Fr.drew [] x
      have fd : Fr [] w x.drew := (Fr.mono (Fr.app f fx) (by have z0_ := Fr.size f; have z1_ := Fr.size fx; intro y_ hy_ hl_; grind [blkOf]))
      obtain ⟨a, i1, c1⟩ := (hu.fr3 fd (by simp)).get hk
      obtain ⟨b, i2, c2⟩ := (hv.fr3 fd (by simp)).get hk
      have k0 : decide ((k : Int) < (u.2.1 : Int)) = true := by simp; omega
      have k1 : (xs[k] != xs[k]) = false := by simp
      have kw := wrap_succ (n := k) (by omega)
      refine ⟨_, x.drew, ?_, rfl, fd⟩
      unfold g28_l3_b
      simp only [k0, i1, c1, i2, c2, k1, kw, obs, asP_pointer, asB_bool, asI_int, asS_string, asSl_slice, asM_map, asTup0, asTup1, asTup2, asTup3, asTup4, asTup5, asTup6, asTup7, asTup8, asTup9, asAgg2, asAgg3, asAgg4, asAgg5, asAgg6, asAgg7, asAgg8, asAgg9, asAgg12, getD0, getD1, getD2, getD3, getD4, getD5, getD6, getD7, getD8, getD9, getD10, getD11, getD12, getD13, getD14, getD15, getD16, getD17, getD18, getD19, Bool.not_true, Bool.not_false, Bool.false_eq_true, Bool.true_eq_false, ↓reduceIte, decide_true, decide_false, Option.isNone_some, Option.isNone_none, Option.isSome_some, Option.isSome_none, beq_self_eq_true, bne_self_eq_false, Bool.and_true, Bool.true_and, Bool.and_false, Bool.false_and, not_true_eq_false, not_false_eq_true])
    (fun s x ⟨hs, f⟩ => by
      subst hs
      unfold g28_l3_b
      have k0 : decide ((xs.length : Int) < (u.2.1 : Int)) = false := by simp; omega
      simp only [k0, Bool.false_eq_true, if_false]) (k := 0) (s := (false, 0)) (w := w) (Nat.zero_le _) ⟨rfl, Fr.refl _ _⟩
  refine ⟨w', g28_call ?_, f⟩
  unfold g28
  have k0 : ((u.2.1 : Int) != (v.2.1 : Int)) = false := by simp; omega
  simp only [k0, Bool.false_eq_true, if_false]
  rw [g28_l3_x0_of g1, g28_l3_x0]

/-- a copy of bytes -/
theorem copyB {w : World} {u : ShT} {xs : List Int} (hu : SlI .u8 w u xs) (hl : xs.length ≤ 140737488351232) : ∃ v w', callB Try.prog .append #[43, 43] 43 #[false, false] #[.slice (some ⟨w.heap.size, 0, none⟩) 0 0, .slice u.1 u.2.1 u.2.2] (w.alloc (.cells #[] 5)) = some (.slice v.1 v.2.1 v.2.2, w') ∧ Own w' 5 1 v (bytesV xs) ∧ Fr [] w w' ∧ ∀ y ∈ blkOf v, w.heap.size ≤ y := by
  have hml : maxLen = 9223372036854775807 := by decide
  have hul := hu.1
  obtain ⟨v, w', e, o, f, n, _⟩ := app_empty t58 hu.slC (bytes_oc xs) (by omega) (by omega) 43 #[false, false]
  exact ⟨v, w', e, o, f, n⟩
end Go.Proofs.Ytjcenfgmpbeldaa
