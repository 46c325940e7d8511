/-
  ImageW: lemmas on what Go functions of this seat come to (for whatever arguments, as each says). No condition but those that stand in each lemma.
-/
import Derived.Test.YtjcenfgmpbeldaaCod
import Derived.Test.YtjcenfgmpbeldaaImageV
namespace Go.Proofs.Ytjcenfgmpbeldaa
open Go Go.Ev
set_option maxRecDepth 100000
set_option linter.unusedVariables false
set_option linter.unusedSimpArgs false

abbrev bytesV (l : List Int) : List Value := l.map (Value.int .u8)
abbrev ShT := Option Addr × Nat × Nat
theorem t58 : TSl Try.prog 43 5 1 1 := tsl_of Try.underlying43 (by kernel_rfl)
theorem bytes_oc (l : List Int) : ∀ u ∈ bytesV l, u.oneCell' = true := by intro u hu; obtain ⟨z, _, rfl⟩ := List.mem_map.mp hu; rfl

/-- a writer at p, all above B -/
structure Wr (w : World) (B p : Nat) (q : ShT) (xs : List Int) : Prop where
  blk : Blk w p [.slice q.1 q.2.1 q.2.2, .int .i64 0] 130
  own : Own w 5 1 q (bytesV xs)
  ap : p ∉ blkOf q
  bp : B ≤ p
  bq : ∀ y ∈ blkOf q, B ≤ y
  bB : B ≤ w.heap.size

theorem Wr.fr {w w' : World} {B p : Nat} {q : ShT} {xs : List Int} {S : List Nat} (h : Wr w B p q xs) (hf : Fr S w w') (h1 : p ∉ S) (h2 : ∀ y ∈ blkOf q, y ∉ S) : Wr w' B p q xs :=
  ⟨h.blk.fr hf h1, h.own.fr hf h2, h.ap, h.bp, h.bq, Nat.le_trans h.bB hf.size⟩

theorem new50 (w : World) : ∃ w', callF Try.prog 44 #[] w = some (.pointer (some ⟨w.heap.size, 0, none⟩), w') ∧ Wr w' w.heap.size w.heap.size (none, 0, 0) [] ∧ Fr [] w w' := by
  refine ⟨w.alloc (.cells #[.slice none 0 0, .int .i64 0] 130), g44_call ?_, ⟨Blk.new w [.slice none 0 0, .int .i64 0] 130, Own.nil _ _ _, by simp [blkOf], Nat.le_refl _, by simp [blkOf], (Fr.alloc (w := w) _).size⟩, Fr.alloc _⟩
  unfold g44
  rfl

section
variable {w : World} {B p : Nat} {q : ShT} {xs : List Int}

theorem wr_put (h : Wr w B p q xs) (b : Int) (hl : xs.length ≤ 1099511627776) : ∃ q1 w1 w2, callB Try.prog .append #[43, 43] 43 #[false, false] #[.slice q.1 q.2.1 q.2.2, .slice (some ⟨w.heap.size, 0, none⟩) 1 1] (w.alloc (.cells #[.int .u8 b] 5)) = some (.slice q1.1 q1.2.1 q1.2.2, w1) ∧
    st1 w1 ⟨p, 0, none⟩ (.slice q1.1 q1.2.1 q1.2.2) = some w2 ∧ Wr w2 B p q1 (xs ++ [b]) ∧ Fr (p :: blkOf q) w w2 ∧ (∀ y ∈ blkOf q1, y ∈ blkOf q ∨ w.heap.size ≤ y) := by
  have hml : maxLen = 9223372036854775807 := by decide
  have hlen := h.own.len
  simp at hlen
  obtain ⟨q1, w1, e1, o1, f1, n1, m1⟩ := app_one t58 h.own (ys := [.int .u8 b]) rfl (by intro y hy; simp at hy; subst hy; rfl) (by omega) (by omega) 43 #[false, false]
  have lp := h.blk.lt
  have b1 := h.blk.fr f1 h.ap
  have hap : p ∉ blkOf q1 := fun hm => by rcases n1 p hm with hm | hm; exact h.ap hm; omega
  refine ⟨q1, w1, _, e1, b1.st1 (i := 0) (by simp) rfl, ⟨b1.set 0 _, ?_, hap, h.bp, fun y hy => by rcases n1 y hy with hy | hy; exact h.bq y hy; have := h.bB; omega, ?_⟩, (f1.app Fr.setCell).mono (by intro y hy _; simp at hy; simp; exact hy.symm), n1⟩
  · have := o1.fr (S := [p]) (w' := w1.setCell ⟨p, 0, none⟩ (.slice q1.1 q1.2.1 q1.2.2)) Fr.setCell (by intro y hy hm; simp at hm; subst hm; exact hap hy)
    simpa [bytesV] using this
  · have h1 := f1.size
    have h2 := (Fr.setCell (w := w1) (b := p) (i := 0) (v := .slice q1.1 q1.2.1 q1.2.2)).size
    have := h.bB
    omega

theorem fr_wr {S : List Nat} {q q1 : ShT} {w w1 w2 : World} {p : Nat} (f1 : Fr (p :: blkOf q) w w1) (f2 : Fr (p :: blkOf q1) w1 w2) (n : ∀ y ∈ blkOf q1, y ∈ blkOf q ∨ w.heap.size ≤ y) : Fr (p :: blkOf q) w w2 :=
  (f1.app f2).mono (by
    intro y hy hl
    rcases List.mem_append.mp hy with hy | hy
    · exact hy
    · rcases List.mem_cons.mp hy with rfl | hy
      · simp
      · rcases n y hy with h | h
        · exact List.mem_cons_of_mem _ h
        · omega)
theorem new_wr {q q1 q2 : ShT} {w w1 : World} {S : List Nat} (f1 : Fr S w w1) (n1 : ∀ y ∈ blkOf q1, y ∈ blkOf q ∨ w.heap.size ≤ y) (n2 : ∀ y ∈ blkOf q2, y ∈ blkOf q1 ∨ w1.heap.size ≤ y) : ∀ y ∈ blkOf q2, y ∈ blkOf q ∨ w.heap.size ≤ y := by
  intro y hy
  have := f1.size
  rcases n2 y hy with h | h
  · exact n1 y h
  · exact .inr (by omega)

/-- what an operation of a writer does -/
def WrTo (w : World) (B p : Nat) (q : ShT) (xs : List Int) (w' : World) : Prop := ∃ q', Wr w' B p q' xs ∧ Fr (p :: blkOf q) w w' ∧ ∀ y ∈ blkOf q', y ∈ blkOf q ∨ w.heap.size ≤ y

theorem uint52 (h : Wr w B p q xs) {n : Nat} (hn : n < 2 ^ 64) (hl : xs.length ≤ 1000000000000) :
    ∃ q' w', callF Try.prog 45 #[.pointer (some ⟨p, 0, none⟩), .int .u64 (n : Int)] w = some (.tuple #[], w') ∧ Wr w' B p q' (xs ++ encU n) ∧ Fr (p :: blkOf q) w w' ∧ ∀ y ∈ blkOf q', y ∈ blkOf q ∨ w.heap.size ≤ y := by
  have h10 := encU_len10 hn
  obtain ⟨e, t, w1, g1, rfl, m, q1, xs1, rfl, hm, hx, h1, f1, n1⟩ := loopS_meas (b := g45_l1_b (some ⟨p, 0, none⟩)) (fun s => s.toNat)
    (I := fun s x => ∃ (m : Nat) (q1 : ShT) (xs1 : List Int), s = (m : Int) ∧ m < 2 ^ 64 ∧ xs1 ++ encU m = xs ++ encU n ∧ Wr x B p q1 xs1 ∧ Fr (p :: blkOf q) w x ∧ ∀ y ∈ blkOf q1, y ∈ blkOf q ∨ w.heap.size ≤ y)
    (Q := fun e s x => e = .exit 0 ∧ ∃ (m : Nat) (q1 : ShT) (xs1 : List Int), s = (m : Int) ∧ m < 128 ∧ xs1 ++ encU m = xs ++ encU n ∧ Wr x B p q1 xs1 ∧ Fr (p :: blkOf q) w x ∧ ∀ y ∈ blkOf q1, y ∈ blkOf q ∨ w.heap.size ≤ y)
    (fun s x ⟨m, q1, xs1, hs, hm, hx, h1, f1, n1⟩ => by
      subst hs
      have hxl : xs1.length + (encU m).length = xs.length + (encU n).length := by rw [← List.length_append, hx, List.length_append]
      have c0 : x.cell? ⟨p, 0, none⟩ = some (.slice q1.1 q1.2.1 q1.2.2) := h1.blk.cell 0
      by_cases hk : m < 128
      · refine ⟨.exit 0, (m : Int), x, ?_, .inr ⟨by simp, rfl, m, q1, xs1, rfl, hk, hx, h1, f1, n1⟩⟩
        unfold g45_l1_b
        have k1 : decide ((m : Int) > 127) = false := by simp; omega
        simp only [k1, Bool.false_eq_true, if_false]
      · have k1 : decide ((m : Int) > 127) = true := by simp; omega
        obtain ⟨q2, x1, x2, e1, e2, h2, f2, n2⟩ := wr_put h1 ((m % 128 + 128 : Nat) : Int) (by omega)
        have ev : IntKind.u8.wrap ((BitVec.ofInt 8 (IntKind.u8.wrap (m : Int)) ||| BitVec.ofInt 8 128).toNat : Nat) = ((m % 128 + 128 : Nat) : Int) := by
          have ew : ∀ n : Int, IntKind.u8.wrap n = n % 256 := fun n => by simp [IntKind.wrap, IntKind.bits, IntKind.signed]
          rw [ew (m : Int), or128 (by omega), ew]; omega
        have ef : Int.fdiv (m : Int) (2 ^ (min (Int.toNat 7) 64)) = ((m / 128 : Nat) : Int) := by
          rw [show (2 : Int) ^ (min (Int.toNat 7) 64) = 128 by decide, Int.fdiv_eq_ediv_of_nonneg _ (by omega)]; omega
        refine ⟨.normal, ((m / 128 : Nat) : Int), x2, ?_, .inl ⟨rfl, ⟨m / 128, q2, xs1 ++ [((m % 128 + 128 : Nat) : Int)], rfl, by omega, ?_, h2, fr_wr (S := []) f1 f2 n1, new_wr f1 n1 n2⟩, by simp; omega⟩⟩
        · unfold g45_l1_b
          simp only [k1, c0, ev, e1, e2, ef, obs, asP_pointer, asB_bool, asI_int, asS_string, asSl_slice, asM_map, asTup0, asTup1, asTup2, asTup3, asTup4, asTup5, asTup6, asTup7, asTup8, asTup9, asAgg2, asAgg3, asAgg4, asAgg5, asAgg6, asAgg7, asAgg8, asAgg9, asAgg12, getD0, getD1, getD2, getD3, getD4, getD5, getD6, getD7, getD8, getD9, getD10, getD11, getD12, getD13, getD14, getD15, getD16, getD17, getD18, getD19, Bool.not_true, Bool.not_false, Bool.false_eq_true, Bool.true_eq_false, ↓reduceIte, decide_true, decide_false, Option.isNone_some, Option.isNone_none, Option.isSome_some, Option.isSome_none, beq_self_eq_true, bne_self_eq_false, Bool.and_true, Bool.true_and, Bool.and_false, Bool.false_and, not_true_eq_false, not_false_eq_true]
        · rw [encU_ge hk] at hx
          rw [← hx]; simp) (s := (n : Int)) (w := w) ⟨n, q, xs, rfl, hn, rfl, h, Fr.refl _ _, fun y hy => .inl hy⟩
  have hxl : xs1.length + (encU m).length = xs.length + (encU n).length := by rw [← List.length_append, hx, List.length_append]
  have c0 : w1.cell? ⟨p, 0, none⟩ = some (.slice q1.1 q1.2.1 q1.2.2) := h1.blk.cell 0
  obtain ⟨q2, x1, x2, e1, e2, h2, f2, n2⟩ := wr_put h1 (m : Int) (by omega)
  have ev : IntKind.u8.wrap (m : Int) = (m : Int) := by
    have ew : ∀ n : Int, IntKind.u8.wrap n = n % 256 := fun n => by simp [IntKind.wrap, IntKind.bits, IntKind.signed]
    rw [ew]; omega
  rw [encU_lt hm] at hx
  rw [hx] at h2
  refine ⟨q2, x2, g45_call ?_, h2, fr_wr (S := []) f1 f2 n1, new_wr f1 n1 n2⟩
  unfold g45
  simp only [Option.isNone_some, Bool.false_eq_true, if_false]
  rw [g45_l1_x0_of g1]
  unfold g45_l1_x0
  simp only [c0, ev, e1, e2, obs, asP_pointer, asB_bool, asI_int, asS_string, asSl_slice, asM_map, asTup0, asTup1, asTup2, asTup3, asTup4, asTup5, asTup6, asTup7, asTup8, asTup9, asAgg2, asAgg3, asAgg4, asAgg5, asAgg6, asAgg7, asAgg8, asAgg9, asAgg12, getD0, getD1, getD2, getD3, getD4, getD5, getD6, getD7, getD8, getD9, getD10, getD11, getD12, getD13, getD14, getD15, getD16, getD17, getD18, getD19, Bool.not_true, Bool.not_false, Bool.false_eq_true, Bool.true_eq_false, ↓reduceIte, decide_true, decide_false, Option.isNone_some, Option.isNone_none, Option.isSome_some, Option.isSome_none, beq_self_eq_true, bne_self_eq_false, Bool.and_true, Bool.true_and, Bool.and_false, Bool.false_and, not_true_eq_false, not_false_eq_true]

theorem int51 (h : Wr w B p q xs) {z : Int} (hz : -9223372036854775808 ≤ z ∧ z ≤ 9223372036854775807) (hl : xs.length ≤ 1000000000000) :
    ∃ q' w', callF Try.prog 47 #[.pointer (some ⟨p, 0, none⟩), .int .i64 z] w = some (.tuple #[], w') ∧ Wr w' B p q' (xs ++ encI z) ∧ Fr (p :: blkOf q) w w' ∧ ∀ y ∈ blkOf q', y ∈ blkOf q ∨ w.heap.size ≤ y := by
  obtain ⟨q', w', e, h1, f1, n1⟩ := uint52 h (zig_lt hz) hl
  refine ⟨q', w', g47_call ?_, h1, f1, n1⟩
  unfold g47
  rw [zig_bits hz]
  simp only [e, obs, asP_pointer, asB_bool, asI_int, asS_string, asSl_slice, asM_map, asTup0, asTup1, asTup2, asTup3, asTup4, asTup5, asTup6, asTup7, asTup8, asTup9, asAgg2, asAgg3, asAgg4, asAgg5, asAgg6, asAgg7, asAgg8, asAgg9, asAgg12, getD0, getD1, getD2, getD3, getD4, getD5, getD6, getD7, getD8, getD9, getD10, getD11, getD12, getD13, getD14, getD15, getD16, getD17, getD18, getD19, Bool.not_true, Bool.not_false, Bool.false_eq_true, Bool.true_eq_false, ↓reduceIte, decide_true, decide_false, Option.isNone_some, Option.isNone_none, Option.isSome_some, Option.isSome_none, beq_self_eq_true, bne_self_eq_false, Bool.and_true, Bool.true_and, Bool.and_false, Bool.false_and, not_true_eq_false, not_false_eq_true]

theorem flag54 (h : Wr w B p q xs) (b : Bool) (hl : xs.length ≤ 1000000000000) :
    ∃ q' w', callF Try.prog 46 #[.pointer (some ⟨p, 0, none⟩), .bool b] w = some (.tuple #[], w') ∧ Wr w' B p q' (xs ++ encF b) ∧ Fr (p :: blkOf q) w w' ∧ ∀ y ∈ blkOf q', y ∈ blkOf q ∨ w.heap.size ≤ y := by
  obtain ⟨q', w', e, h1, f1, n1⟩ := uint52 h (n := if b then 1 else 0) (by cases b <;> decide) hl
  have he : encU (if b then 1 else 0) = encF b := by cases b <;> simp [encF, encU_lt]
  rw [he] at h1
  refine ⟨q', w', g46_call ?_, h1, f1, n1⟩
  unfold g46
  cases b
  · have e' : callF Try.prog 45 #[.pointer (some ⟨p, 0, none⟩), .int .u64 0] w = some (.tuple #[], w') := e
    simp only [e', obs, asP_pointer, asB_bool, asI_int, asS_string, asSl_slice, asM_map, asTup0, asTup1, asTup2, asTup3, asTup4, asTup5, asTup6, asTup7, asTup8, asTup9, asAgg2, asAgg3, asAgg4, asAgg5, asAgg6, asAgg7, asAgg8, asAgg9, asAgg12, getD0, getD1, getD2, getD3, getD4, getD5, getD6, getD7, getD8, getD9, getD10, getD11, getD12, getD13, getD14, getD15, getD16, getD17, getD18, getD19, Bool.not_true, Bool.not_false, Bool.false_eq_true, Bool.true_eq_false, ↓reduceIte, decide_true, decide_false, Option.isNone_some, Option.isNone_none, Option.isSome_some, Option.isSome_none, beq_self_eq_true, bne_self_eq_false, Bool.and_true, Bool.true_and, Bool.and_false, Bool.false_and, not_true_eq_false, not_false_eq_true]
  · have e' : callF Try.prog 45 #[.pointer (some ⟨p, 0, none⟩), .int .u64 1] w = some (.tuple #[], w') := e
    simp only [e', obs, asP_pointer, asB_bool, asI_int, asS_string, asSl_slice, asM_map, asTup0, asTup1, asTup2, asTup3, asTup4, asTup5, asTup6, asTup7, asTup8, asTup9, asAgg2, asAgg3, asAgg4, asAgg5, asAgg6, asAgg7, asAgg8, asAgg9, asAgg12, getD0, getD1, getD2, getD3, getD4, getD5, getD6, getD7, getD8, getD9, getD10, getD11, getD12, getD13, getD14, getD15, getD16, getD17, getD18, getD19, Bool.not_true, Bool.not_false, Bool.false_eq_true, Bool.true_eq_false, ↓reduceIte, decide_true, decide_false, Option.isNone_some, Option.isNone_none, Option.isSome_some, Option.isSome_none, beq_self_eq_true, bne_self_eq_false, Bool.and_true, Bool.true_and, Bool.and_false, Bool.false_and, not_true_eq_false, not_false_eq_true]

theorem flat_len (l : List Int) (hz : ∀ z ∈ l, -9223372036854775808 ≤ z ∧ z ≤ 9223372036854775807) : (l.map encI).flatten.length ≤ 10 * l.length := by
  induction l with
  | nil => simp
  | cons z l ih =>
    have := ih (fun y hy => hz y (by simp [hy]))
    have h1 := encU_len10 (zig_lt (hz z (by simp)))
    have h2 : (encI z).length ≤ 10 := h1
    simp only [List.map_cons, List.flatten_cons, List.length_append, List.length_cons]
    omega

theorem ints53 (h : Wr w B p q xs) {u : ShT} {l : List Int} (hu : SlI .i64 w u l) (hap : 0 < u.2.1 → ∀ y ∈ blkOf u, y ≠ p ∧ y ∉ blkOf q) (hz : ∀ z ∈ l, -9223372036854775808 ≤ z ∧ z ≤ 9223372036854775807) (hll : l.length ≤ 10000000) (hl : xs.length ≤ 100000000000) :
    ∃ q' w', callF Try.prog 48 #[.pointer (some ⟨p, 0, none⟩), .slice u.1 u.2.1 u.2.2] w = some (.tuple #[], w') ∧ Wr w' B p q' (xs ++ encL l) ∧ Fr (p :: blkOf q) w w' ∧ ∀ y ∈ blkOf q', y ∈ blkOf q ∨ w.heap.size ≤ y := by
  have hul := hu.1
  obtain ⟨q1, w1, e1, h1, f1, n1⟩ := uint52 h (n := l.length) (by omega) (by omega)
  have h10 := encU_len10 (n := l.length) (by omega)
  have hw : IntKind.u64.wrap (u.2.1 : Int) = (l.length : Int) := by rw [wrap_u64 (by omega) (by omega)]; omega
  have hlt : 0 < u.2.1 → ∀ y ∈ blkOf u, y < w.heap.size := fun h0 y hy => by
    have := hu.slC.lt (by simp; omega) y hy; exact this
  have hu' : ∀ {x : World}, Fr (p :: blkOf q) w x → SlI .i64 x u l := fun hf => hu.fr3 hf (fun h0 y hy hm => by
    rcases List.mem_cons.mp hm with rfl | hm
    · exact (hap h0 y hy).1 rfl
    · exact (hap h0 y hy).2 hm)
  obtain ⟨t, w2, g1, rfl, q2, h2, f2, n2⟩ := loopS_countX 0 (b := g48_l4_b u (some ⟨p, 0, none⟩)) (I := fun k s x => s = (k : Int) ∧ ∃ q2, Wr x B p q2 (xs ++ encU l.length ++ ((l.take k).map encI).flatten) ∧ Fr (p :: blkOf q) w x ∧ ∀ y ∈ blkOf q2, y ∈ blkOf q ∨ w.heap.size ≤ y) (n := l.length)
    (fun k s x hk ⟨hs, q2, h2, f2, n2⟩ => by
      subst hs
      obtain ⟨a, i1, c1⟩ := (hu' f2).get hk
      have hfl := flat_len (l.take k) (fun z hz' => hz z (List.mem_of_mem_take hz'))
      simp only [List.length_take] at hfl
      obtain ⟨q3, x1, e3, h3, f3, n3⟩ := int51 h2 (hz l[k] (List.getElem_mem hk)) (by simp only [List.length_append]; omega)
      have k1 : decide ((k : Int) < (u.2.1 : Int)) = true := by simp; omega
      have kw := wrap_succ (n := k) (by omega)
      refine ⟨_, x1, ?_, rfl, q3, ?_, fr_wr (S := []) f2 f3 n2, new_wr f2 n2 n3⟩
      · unfold g48_l4_b
        simp only [k1, i1, c1, e3, kw, obs, asP_pointer, asB_bool, asI_int, asS_string, asSl_slice, asM_map, asTup0, asTup1, asTup2, asTup3, asTup4, asTup5, asTup6, asTup7, asTup8, asTup9, asAgg2, asAgg3, asAgg4, asAgg5, asAgg6, asAgg7, asAgg8, asAgg9, asAgg12, getD0, getD1, getD2, getD3, getD4, getD5, getD6, getD7, getD8, getD9, getD10, getD11, getD12, getD13, getD14, getD15, getD16, getD17, getD18, getD19, Bool.not_true, Bool.not_false, Bool.false_eq_true, Bool.true_eq_false, ↓reduceIte, decide_true, decide_false, Option.isNone_some, Option.isNone_none, Option.isSome_some, Option.isSome_none, beq_self_eq_true, bne_self_eq_false, Bool.and_true, Bool.true_and, Bool.and_false, Bool.false_and, not_true_eq_false, not_false_eq_true]
      · have : ((l.take (k + 1)).map encI).flatten = ((l.take k).map encI).flatten ++ encI l[k] := by
          rw [List.take_succ_eq_append_getElem hk, List.map_append, List.flatten_append]; simp
        rw [this, ← List.append_assoc]; exact h3)
    (fun s x ⟨hs, _⟩ => by
      subst hs
      unfold g48_l4_b
      have k1 : decide ((l.length : Int) < (u.2.1 : Int)) = false := by simp; omega
      simp only [k1, Bool.false_eq_true, if_false]) (k := 0) (s := 0) (w := w1) (Nat.zero_le _) ⟨rfl, q1, by simpa using h1, f1, n1⟩
  rw [List.take_length, List.append_assoc] at h2
  refine ⟨q2, w2, g48_call ?_, h2, f2, n2⟩
  unfold g48
  rw [hw]
  simp only [e1, obs, asP_pointer, asB_bool, asI_int, asS_string, asSl_slice, asM_map, asTup0, asTup1, asTup2, asTup3, asTup4, asTup5, asTup6, asTup7, asTup8, asTup9, asAgg2, asAgg3, asAgg4, asAgg5, asAgg6, asAgg7, asAgg8, asAgg9, asAgg12, getD0, getD1, getD2, getD3, getD4, getD5, getD6, getD7, getD8, getD9, getD10, getD11, getD12, getD13, getD14, getD15, getD16, getD17, getD18, getD19, Bool.not_true, Bool.not_false, Bool.false_eq_true, Bool.true_eq_false, ↓reduceIte, decide_true, decide_false, Option.isNone_some, Option.isNone_none, Option.isSome_some, Option.isSome_none, beq_self_eq_true, bne_self_eq_false, Bool.and_true, Bool.true_and, Bool.and_false, Bool.false_and, not_true_eq_false, not_false_eq_true]
  rw [g48_l4_x0_of g1, g48_l4_x0]

theorem out55 (h : Wr w B p q xs) (hl : xs.length ≤ 100000000000000) :
    ∃ q' w', callF Try.prog 49 #[.pointer (some ⟨p, 0, none⟩)] w = some (.tuple #[.slice q'.1 q'.2.1 q'.2.2, .int .i64 0], w') ∧ Own w' 5 1 q' (bytesV xs) ∧ Fr [] w w' ∧ ∀ y ∈ blkOf q', w.heap.size ≤ y := by
  have hml : maxLen = 9223372036854775807 := by decide
  have hlen := h.own.len
  simp at hlen
  obtain ⟨q', w', e, o, f, n, _⟩ := app_nil t58 h.own.slC (bytes_oc xs) (by omega) (by omega) 43 #[true, false]
  have c0 : w.cell? ⟨p, 0, none⟩ = some (.slice q.1 q.2.1 q.2.2) := h.blk.cell 0
  have c1 : w.cell? ⟨p, 1, none⟩ = some (.int .i64 0) := h.blk.cell 1
  refine ⟨q', w', g49_call ?_, o, f, n⟩
  unfold g49
  have k0 : ((0 : Int) != 0) = false := rfl
  simp only [addr_add, Nat.zero_add, c1, k0, c0, e, obs, asP_pointer, asB_bool, asI_int, asS_string, asSl_slice, asM_map, asTup0, asTup1, asTup2, asTup3, asTup4, asTup5, asTup6, asTup7, asTup8, asTup9, asAgg2, asAgg3, asAgg4, asAgg5, asAgg6, asAgg7, asAgg8, asAgg9, asAgg12, getD0, getD1, getD2, getD3, getD4, getD5, getD6, getD7, getD8, getD9, getD10, getD11, getD12, getD13, getD14, getD15, getD16, getD17, getD18, getD19, Bool.not_true, Bool.not_false, Bool.false_eq_true, Bool.true_eq_false, ↓reduceIte, decide_true, decide_false, Option.isNone_some, Option.isNone_none, Option.isSome_some, Option.isSome_none, beq_self_eq_true, bne_self_eq_false, Bool.and_true, Bool.true_and, Bool.and_false, Bool.false_and, not_true_eq_false, not_false_eq_true]
end
end Go.Proofs.Ytjcenfgmpbeldaa
