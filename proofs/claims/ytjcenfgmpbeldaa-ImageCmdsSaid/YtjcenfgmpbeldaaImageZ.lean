/-
  ImageZ: lemmas on what Go functions of this seat come to (for whatever arguments, as each says). No condition but those that stand in each lemma.
-/
import Derived.Test.YtjcenfgmpbeldaaImageY
namespace Go.Proofs.Ytjcenfgmpbeldaa
open Go Go.Ev
set_option maxRecDepth 100000
set_option linter.unusedVariables false
set_option linter.unusedSimpArgs false
abbrev numsV (l : List Int) : List Value := l.map (Value.int .i64)
theorem t28' : TSl Try.prog 28 3 1 8 := tsl_of Try.underlying28 (by kernel_rfl)
section
variable {T : TypeId} {w : World} {p : Nat} {q : ShT} {s : RS}

/-- a byte behind what is there -/
theorem put1 {v : ShT} {xs : List Int} (h : Own w 5 1 v (bytesV xs)) (b : Int) (hl : xs.length ≤ 1099511627776) : ∃ v1 w1, callB Try.prog .append #[43, 43] 43 #[false, false] #[.slice v.1 v.2.1 v.2.2, .slice (some ⟨w.heap.size, 0, none⟩) 1 1] (w.alloc (.cells #[.int .u8 b] 5)) = some (.slice v1.1 v1.2.1 v1.2.2, w1) ∧
    Own w1 5 1 v1 (bytesV (xs ++ [b])) ∧ Fr (blkOf v) w w1 ∧ (∀ y ∈ blkOf v1, y ∈ blkOf v ∨ w.heap.size ≤ y) := by
  have hml : maxLen = 9223372036854775807 := by decide
  have hlen := h.len
  simp at hlen
  obtain ⟨v1, w1, e1, o1, f1, n1, m1⟩ := app_one t58 h (ys := [.int .u8 b]) rfl (by intro y hy; simp at hy; subst hy; rfl) (by omega) (by omega) 43 #[false, false]
  exact ⟨v1, w1, e1, by simpa [bytesV] using o1, f1, n1⟩
/-- bytes behind what is there -/
theorem puts1 {v u : ShT} {xs ys : List Int} (h : Own w 5 1 v (bytesV xs)) (hu : Own w 5 1 u (bytesV ys)) (hl : xs.length ≤ 1099511627776) (hl2 : ys.length ≤ 1099511627776) : ∃ v1 w1, callB Try.prog .append #[43, 43] 43 #[false, false] #[.slice v.1 v.2.1 v.2.2, .slice u.1 u.2.1 u.2.2] w = some (.slice v1.1 v1.2.1 v1.2.2, w1) ∧
    Own w1 5 1 v1 (bytesV (xs ++ ys)) ∧ Fr (blkOf v) w w1 ∧ (∀ y ∈ blkOf v1, y ∈ blkOf v ∨ w.heap.size ≤ y) := by
  have hml : maxLen = 9223372036854775807 := by decide
  have hlen := h.len
  simp at hlen
  have hlen2 := hu.len
  simp at hlen2
  obtain ⟨v1, w1, e1, o1, f1, n1, m1⟩ := app_sl t58 h hu.slC (bytes_oc ys) (by omega) (by omega) 43 #[false, false]
  exact ⟨v1, w1, e1, by simpa [bytesV] using o1, f1, n1⟩

theorem fr_new {W w w1 : World} {v : ShT} (hW : Fr [] W w) (hn : ∀ y ∈ blkOf v, W.heap.size ≤ y) (f : Fr (blkOf v) w w1) : Fr [] W w1 :=
  (hW.app f).mono (by intro y hy hl; simp at hy; have := hn y hy; omega)

theorem zig67 (w : World) {z : Int} (hz : -9223372036854775808 ≤ z ∧ z ≤ 9223372036854775807) : callF Try.prog 79 #[.int .i64 z] w = some (.int .u64 (zig z : Int), w) := by
  refine g79_call ?_
  have ew : ∀ n : Int, IntKind.u64.wrap n = n % 18446744073709551616 := fun n => by simp [IntKind.wrap, IntKind.bits, IntKind.signed]
  unfold g79 zig
  by_cases h0 : 0 ≤ z
  · have k0 : decide (z ≥ 0) = true := by simp [h0]
    rw [if_pos h0]
    simp only [k0, if_true, ew]
    congr 3
    omega
  · have k0 : decide (z ≥ 0) = false := by simp; omega
    rw [if_neg h0, wrap_i64 (n := z + 1) (by omega) (by omega), wrap_i64 (by omega) (by omega)]
    simp only [k0, Bool.false_eq_true, if_false, ew]
    congr 3
    omega

theorem uint42 (w : World) {n : Nat} (hn : n < 2 ^ 64) : ∃ v w', callF Try.prog 65 #[.int .u64 (n : Int)] w = some (.slice v.1 v.2.1 v.2.2, w') ∧ Own w' 5 1 v (bytesV (encU n)) ∧ Fr [] w w' ∧ ∀ y ∈ blkOf v, w.heap.size ≤ y := by
  have h10 := encU_len10 hn
  obtain ⟨e, t, w1, g1, rfl, o, f, nn⟩ := loopS_meas (b := g65_l1_b) (fun s => s.1.toNat)
    (I := fun s x => ∃ (m : Nat) (v : ShT) (xs : List Int), s = ((m : Int), (none, 0, 0), v) ∧ m < 2 ^ 64 ∧ xs ++ encU m = encU n ∧ Own x 5 1 v (bytesV xs) ∧ Fr [] w x ∧ (∀ y ∈ blkOf v, w.heap.size ≤ y) ∧ (n = m ∨ 0 < m))
    (Q := fun e s x => e = .ret ∧ Own x 5 1 s.2.1 (bytesV (encU n)) ∧ Fr [] w x ∧ ∀ y ∈ blkOf s.2.1, w.heap.size ≤ y)
    (fun s x ⟨m, v, xs, hs, hm, hx, o, f, nv, h0⟩ => by
      subst hs
      have hxl : xs.length + (encU m).length = (encU n).length := by rw [← List.length_append, hx]
      have hp := encU_pos m
      have e1 : IntKind.u64.wrap (Int.tdiv (m : Int) 128) = ((m / 128 : Nat) : Int) := by
        rw [Int.tdiv_eq_ediv_of_nonneg (by omega), wrap_u64 (by omega) (by omega)]; omega
      have e2 : Int.tmod (m : Int) 128 = ((m % 128 : Nat) : Int) := by rw [Int.tmod_eq_emod_of_nonneg (by omega)]; omega
      have e3 : IntKind.u8.wrap ((m % 128 : Nat) : Int) = ((m % 128 : Nat) : Int) := wr8 (by omega)
      have e4 : IntKind.u8.wrap (IntKind.u64.wrap (((m % 128 : Nat) : Int) + 128)) = ((m % 128 + 128 : Nat) : Int) := by
        rw [wrap_u64 (by omega) (by omega), wr8 (by omega)]; omega
      by_cases hk : m < 128
      · have k0 : (((m / 128 : Nat) : Int) == 0) = true := by simp; omega
        obtain ⟨v1, w1, g1, o1, f1, n1⟩ := put1 o ((m % 128 : Nat) : Int) (by omega)
        rw [encU_lt hk] at hx
        rw [show ((m % 128 : Nat) : Int) = (m : Int) by omega, hx] at o1
        refine ⟨.ret, (((m / 128 : Nat) : Int), v1, v1), w1, ?_, .inr ⟨by simp, rfl, o1, fr_new f nv f1, fun y hy => ?_⟩⟩
        · unfold g65_l1_b
          simp only [e1, e2, e3, k0, g1, obs, asP_pointer, asB_bool, asI_int, asS_string, asSl_slice, asM_map, asTup0, asTup1, asTup2, asTup3, asTup4, asTup5, asTup6, asTup7, asTup8, asTup9, asAgg2, asAgg3, asAgg4, asAgg5, asAgg6, asAgg7, asAgg8, asAgg9, asAgg12, getD0, getD1, getD2, getD3, getD4, getD5, getD6, getD7, getD8, getD9, getD10, getD11, getD12, getD13, getD14, getD15, getD16, getD17, getD18, getD19, Bool.not_true, Bool.not_false, Bool.false_eq_true, Bool.true_eq_false, ↓reduceIte, decide_true, decide_false, Option.isNone_some, Option.isNone_none, Option.isSome_some, Option.isSome_none, beq_self_eq_true, bne_self_eq_false, Bool.and_true, Bool.true_and, Bool.and_false, Bool.false_and, not_true_eq_false, not_false_eq_true]
        · have := f.size
          rcases n1 y hy with h | h
          · exact nv y h
          · omega
      · have k0 : (((m / 128 : Nat) : Int) == 0) = false := by simp; omega
        obtain ⟨v1, w1, g1, o1, f1, n1⟩ := put1 o ((m % 128 + 128 : Nat) : Int) (by omega)
        rw [encU_ge hk] at hx
        refine ⟨.normal, (((m / 128 : Nat) : Int), (none, 0, 0), v1), w1, ?_, .inl ⟨rfl, ⟨m / 128, v1, xs ++ [((m % 128 + 128 : Nat) : Int)], rfl, by omega, by rw [← hx]; simp, o1, fr_new f nv f1, fun y hy => ?_, .inr (by omega)⟩, by simp; omega⟩⟩
        · unfold g65_l1_b
          simp only [e1, e2, e4, k0, g1, obs, asP_pointer, asB_bool, asI_int, asS_string, asSl_slice, asM_map, asTup0, asTup1, asTup2, asTup3, asTup4, asTup5, asTup6, asTup7, asTup8, asTup9, asAgg2, asAgg3, asAgg4, asAgg5, asAgg6, asAgg7, asAgg8, asAgg9, asAgg12, getD0, getD1, getD2, getD3, getD4, getD5, getD6, getD7, getD8, getD9, getD10, getD11, getD12, getD13, getD14, getD15, getD16, getD17, getD18, getD19, Bool.not_true, Bool.not_false, Bool.false_eq_true, Bool.true_eq_false, ↓reduceIte, decide_true, decide_false, Option.isNone_some, Option.isNone_none, Option.isSome_some, Option.isSome_none, beq_self_eq_true, bne_self_eq_false, Bool.and_true, Bool.true_and, Bool.and_false, Bool.false_and, not_true_eq_false, not_false_eq_true]
        · have := f.size
          rcases n1 y hy with h | h
          · exact nv y h
          · omega) (s := ((n : Int), (none, 0, 0), (none, 0, 0))) (w := w) ⟨n, (none, 0, 0), [], rfl, hn, rfl, Own.nil _ _ _, Fr.refl _ _, by simp [blkOf], .inl rfl⟩
  refine ⟨t.2.1, w1, g65_call ?_, o, f, nn⟩
  unfold g65
  rw [g65_l1_ret_of g1, g65_l1_ret]

theorem int41 (w : World) {z : Int} (hz : -9223372036854775808 ≤ z ∧ z ≤ 9223372036854775807) : ∃ v w', callF Try.prog 50 #[.int .i64 z] w = some (.slice v.1 v.2.1 v.2.2, w') ∧ Own w' 5 1 v (bytesV (encI z)) ∧ Fr [] w w' ∧ ∀ y ∈ blkOf v, w.heap.size ≤ y := by
  obtain ⟨v, w', e, o, f, n⟩ := uint42 w (zig_lt hz)
  have e1 := zig67 w hz
  refine ⟨v, w', g50_call ?_, o, f, n⟩
  unfold g50
  simp only [e1, e, obs, asP_pointer, asB_bool, asI_int, asS_string, asSl_slice, asM_map, asTup0, asTup1, asTup2, asTup3, asTup4, asTup5, asTup6, asTup7, asTup8, asTup9, asAgg2, asAgg3, asAgg4, asAgg5, asAgg6, asAgg7, asAgg8, asAgg9, asAgg12, getD0, getD1, getD2, getD3, getD4, getD5, getD6, getD7, getD8, getD9, getD10, getD11, getD12, getD13, getD14, getD15, getD16, getD17, getD18, getD19, Bool.not_true, Bool.not_false, Bool.false_eq_true, Bool.true_eq_false, ↓reduceIte, decide_true, decide_false, Option.isNone_some, Option.isNone_none, Option.isSome_some, Option.isSome_none, beq_self_eq_true, bne_self_eq_false, Bool.and_true, Bool.true_and, Bool.and_false, Bool.false_and, not_true_eq_false, not_false_eq_true]
theorem flag44 (w : World) (b : Bool) : ∃ v w', callF Try.prog 66 #[.bool b] w = some (.slice v.1 v.2.1 v.2.2, w') ∧ Own w' 5 1 v (bytesV (encF b)) ∧ Fr [] w w' ∧ ∀ y ∈ blkOf v, w.heap.size ≤ y := by
  refine ⟨(some ⟨w.heap.size, 0, none⟩, 1, 1), w.alloc (.cells #[.int .u8 (if b then 1 else 0)] 5), g66_call ?_, ⟨rfl, Nat.le_refl _, by show 1 ≤ maxLen; decide, .inr ⟨w.heap.size, 0, _, rfl, alloc_blk_new _, by simp, by simp [encF, bytesV]⟩⟩, Fr.alloc _, by simp [blkOf]⟩
  unfold g66
  cases b <;> rfl
theorem ints43 {u : ShT} {l : List Int} (hu : SlI .i64 w u l) (hz : ∀ z ∈ l, -9223372036854775808 ≤ z ∧ z ≤ 9223372036854775807) (hll : l.length ≤ 10000000) :
    ∃ v w', callF Try.prog 51 #[.slice u.1 u.2.1 u.2.2] w = some (.slice v.1 v.2.1 v.2.2, w') ∧ Own w' 5 1 v (bytesV (encL l)) ∧ Fr [] w w' ∧ ∀ y ∈ blkOf v, w.heap.size ≤ y := by
  have hul := hu.1
  obtain ⟨v1, w1, e1, o1, f1, n1⟩ := uint42 w (n := l.length) (by omega)
  have h10 := encU_len10 (n := l.length) (by omega)
  have hw : IntKind.u64.wrap (u.2.1 : Int) = (l.length : Int) := by rw [wrap_u64 (by omega) (by omega)]; omega
  have hu' : ∀ {x : World}, Fr [] w x → SlI .i64 x u l := fun hf => hu.fr3 hf (by simp)
  obtain ⟨t, w2, g1, v2, rfl, o2, f2, n2⟩ := loopS_countX 0 (b := g51_l4_b u) (I := fun k s x => ∃ v2 : ShT, s = (v2, (k : Int)) ∧ Own x 5 1 v2 (bytesV (encU l.length ++ ((l.take k).map encI).flatten)) ∧ Fr [] w x ∧ ∀ y ∈ blkOf v2, w.heap.size ≤ y) (n := l.length)
    (fun k s x hk ⟨v2, hs, o2, f2, n2⟩ => by
      subst hs
      obtain ⟨a, i1, c1⟩ := (hu' f2).get hk
      have hfl := flat_len (l.take k) (fun z hz' => hz z (List.mem_of_mem_take hz'))
      simp only [List.length_take] at hfl
      have hzk := hz l[k] (List.getElem_mem hk)
      have h2 : (encI l[k]).length ≤ 10 := encU_len10 (zig_lt hzk)
      obtain ⟨v3, x1, e3, o3, f3, n3⟩ := int41 x hzk
      obtain ⟨v4, x2, e4, o4, f4, n4⟩ := puts1 (o2.fr f3 (by simp)) o3 (by simp only [List.length_append]; omega) (by omega)
      have k1 : decide ((k : Int) < (u.2.1 : Int)) = true := by simp; omega
      have kw := wrap_succ (n := k) (by omega)
      have F3 : Fr [] w x1 := (Fr.mono (Fr.app f2 f3) (by have z0_ := Fr.size f2; have z1_ := Fr.size f3; intro y_ hy_ hl_; grind [blkOf]))
      refine ⟨_, x2, ?_, v4, rfl, ?_, fr_new F3 n2 f4, fun y hy => ?_⟩
      · unfold g51_l4_b
        simp only [k1, i1, c1, e3, e4, kw, obs, asP_pointer, asB_bool, asI_int, asS_string, asSl_slice, asM_map, asTup0, asTup1, asTup2, asTup3, asTup4, asTup5, asTup6, asTup7, asTup8, asTup9, asAgg2, asAgg3, asAgg4, asAgg5, asAgg6, asAgg7, asAgg8, asAgg9, asAgg12, getD0, getD1, getD2, getD3, getD4, getD5, getD6, getD7, getD8, getD9, getD10, getD11, getD12, getD13, getD14, getD15, getD16, getD17, getD18, getD19, Bool.not_true, Bool.not_false, Bool.false_eq_true, Bool.true_eq_false, ↓reduceIte, decide_true, decide_false, Option.isNone_some, Option.isNone_none, Option.isSome_some, Option.isSome_none, beq_self_eq_true, bne_self_eq_false, Bool.and_true, Bool.true_and, Bool.and_false, Bool.false_and, not_true_eq_false, not_false_eq_true]
      · have : ((l.take (k + 1)).map encI).flatten = ((l.take k).map encI).flatten ++ encI l[k] := by
          rw [List.take_succ_eq_append_getElem hk, List.map_append, List.flatten_append]; simp
        rw [this, ← List.append_assoc]; exact o4
      · have := F3.size
        rcases n4 y hy with h | h
        · exact n2 y h
        · omega)
    (fun s x ⟨v2, hs, _⟩ => by
      subst hs
      unfold g51_l4_b
      have k1 : decide ((l.length : Int) < (u.2.1 : Int)) = false := by simp; omega
      simp only [k1, Bool.false_eq_true, if_false]) (k := 0) (s := (v1, 0)) (w := w1) (Nat.zero_le _) ⟨v1, rfl, by simpa using o1, f1, n1⟩
  rw [List.take_length] at o2
  refine ⟨v2, w2, g51_call ?_, o2, f2, n2⟩
  unfold g51
  rw [hw]
  simp only [e1, obs, asP_pointer, asB_bool, asI_int, asS_string, asSl_slice, asM_map, asTup0, asTup1, asTup2, asTup3, asTup4, asTup5, asTup6, asTup7, asTup8, asTup9, asAgg2, asAgg3, asAgg4, asAgg5, asAgg6, asAgg7, asAgg8, asAgg9, asAgg12, getD0, getD1, getD2, getD3, getD4, getD5, getD6, getD7, getD8, getD9, getD10, getD11, getD12, getD13, getD14, getD15, getD16, getD17, getD18, getD19, Bool.not_true, Bool.not_false, Bool.false_eq_true, Bool.true_eq_false, ↓reduceIte, decide_true, decide_false, Option.isNone_some, Option.isNone_none, Option.isSome_some, Option.isSome_none, beq_self_eq_true, bne_self_eq_false, Bool.and_true, Bool.true_and, Bool.and_false, Bool.false_and, not_true_eq_false, not_false_eq_true]
  rw [g51_l4_x0_of g1, g51_l4_x0]

theorem new56 {u : ShT} {bs : List Int} (hu : SlI .u8 w u bs) (hb : ∀ b ∈ bs, 0 ≤ b ∧ b ≤ 255) (hl : bs.length ≤ 140737488351232) : ∃ p v w', callF Try.prog 55 #[.slice u.1 u.2.1 u.2.2] w = some (.pointer (some ⟨p, 0, none⟩), w') ∧
    Rdr 134 w' p v ⟨bs, 0, 0⟩ ∧ Fr [] w w' ∧ w.heap.size ≤ p ∧ ∀ y ∈ blkOf v, w.heap.size ≤ y := by
  have hml : maxLen = 9223372036854775807 := by decide
  have hul := hu.1
  obtain ⟨v, w1, e, o, f, n, _⟩ := app_nil t58 hu.slC (bytes_oc bs) (by omega) (by omega) 43 #[true, false]
  have fa : Fr [] w1 (w1.alloc (.cells #[.slice v.1 v.2.1 v.2.2, .int .i64 0, .int .i64 0] 134)) := Fr.alloc _
  refine ⟨w1.heap.size, v, w1.alloc (.cells #[.slice v.1 v.2.1 v.2.2, .int .i64 0, .int .i64 0] 134), g55_call ?_, ⟨Blk.new w1 [.slice v.1 v.2.1 v.2.2, .int .i64 0, .int .i64 0] 134, ?_, fun _ hy => ?_, ⟨hb, by simp, by simp only; omega⟩⟩, (Fr.mono (Fr.app f fa) (by have z0_ := Fr.size f; have z1_ := Fr.size fa; intro y_ hy_ hl_; grind [blkOf])), f.size, n⟩
  · unfold g55
    simp only [e, obs, asP_pointer, asB_bool, asI_int, asS_string, asSl_slice, asM_map, asTup0, asTup1, asTup2, asTup3, asTup4, asTup5, asTup6, asTup7, asTup8, asTup9, asAgg2, asAgg3, asAgg4, asAgg5, asAgg6, asAgg7, asAgg8, asAgg9, asAgg12, getD0, getD1, getD2, getD3, getD4, getD5, getD6, getD7, getD8, getD9, getD10, getD11, getD12, getD13, getD14, getD15, getD16, getD17, getD18, getD19, Bool.not_true, Bool.not_false, Bool.false_eq_true, Bool.true_eq_false, ↓reduceIte, decide_true, decide_false, Option.isNone_some, Option.isNone_none, Option.isSome_some, Option.isSome_none, beq_self_eq_true, bne_self_eq_false, Bool.and_true, Bool.true_and, Bool.and_false, Bool.false_and, not_true_eq_false, not_false_eq_true]
  · exact ((o.fr fa (by simp)).slC).ints
  · have := o.lt _ hy; omega

theorem ints59 (h : Rdr 134 w p q s) : ∃ v w', callF Try.prog 57 #[.pointer (some ⟨p, 0, none⟩)] w = some (.slice v.1 v.2.1 v.2.2, w') ∧ Own w' 3 1 v (numsV (intsS s).1) ∧ Rdr 134 w' p q (intsS s).2 ∧ Fr [p] w w' ∧ ∀ y ∈ blkOf v, w.heap.size ≤ y := by
  have hml : maxLen = 9223372036854775807 := by decide
  have hq : 0 < q.2.1 → ∀ y ∈ blkOf q, y < w.heap.size := fun h0 y hy => h.txt.slC.lt (by have := h.txt.1; simp; omega) y hy
  obtain ⟨w1, e1, R1, f1⟩ := uint58 h
  have hlp := h.blk.lt
  by_cases h4 : 4096 < (uintS s).1
  · obtain ⟨w2, e2, R2, f2⟩ := fail70 R1 2
    have hu : intsS s = ([], (uintS s).2.fail 2) := by unfold intsS; rw [if_pos h4]
    have k1 : decide (((uintS s).1 : Int) > 4096) = true := by simp; omega
    rw [hu]
    refine ⟨(none, 0, 0), w2, g57_call ?_, Own.nil _ _ _, R2, fr1 f1 f2, by simp [blkOf]⟩
    unfold g57
    simp only [e1, k1, e2, obs, asP_pointer, asB_bool, asI_int, asS_string, asSl_slice, asM_map, asTup0, asTup1, asTup2, asTup3, asTup4, asTup5, asTup6, asTup7, asTup8, asTup9, asAgg2, asAgg3, asAgg4, asAgg5, asAgg6, asAgg7, asAgg8, asAgg9, asAgg12, getD0, getD1, getD2, getD3, getD4, getD5, getD6, getD7, getD8, getD9, getD10, getD11, getD12, getD13, getD14, getD15, getD16, getD17, getD18, getD19, Bool.not_true, Bool.not_false, Bool.false_eq_true, Bool.true_eq_false, ↓reduceIte, decide_true, decide_false, Option.isNone_some, Option.isNone_none, Option.isSome_some, Option.isSome_none, beq_self_eq_true, bne_self_eq_false, Bool.and_true, Bool.true_and, Bool.and_false, Bool.false_and, not_true_eq_false, not_false_eq_true]
  · have k1 : decide (((uintS s).1 : Int) > 4096) = false := by simp; omega
    have hu : intsS s = intsL (uintS s).1 (uintS s).2 [] := by unfold intsS; rw [if_neg h4]
    obtain ⟨N, hN⟩ : ∃ N, (uintS s).1 = N := ⟨_, rfl⟩
    obtain ⟨s1, hs1⟩ : ∃ s1, (uintS s).2 = s1 := ⟨_, rfl⟩
    rw [hN, hs1] at hu
    rw [hN] at e1 k1 h4
    rw [hs1] at R1
    obtain ⟨e, t, w2, g1, hQ⟩ := loopS_rule (b := g57_l4_b (N : Int) (some ⟨p, 0, none⟩)) (n := N)
      (I := fun k st x => ∃ (v : ShT) (acc : List Int) (s' : RS), st = ((none, 0, 0), v, (k : Int)) ∧ Own x 3 1 v (numsV acc) ∧ (∀ y ∈ blkOf v, w.heap.size ≤ y) ∧ Rdr 134 x p q s' ∧ acc.length = k ∧ k ≤ N ∧ intsL N s1 [] = intsL (N - k) s' acc ∧ Fr [p] w x)
      (Q := fun e st x => (e = .ret ∧ st.1 = (none, 0, 0) ∧ (intsL N s1 []).1 = [] ∨ e = .exit 0 ∧ Own x 3 1 st.2.1 (numsV (intsL N s1 []).1) ∧ ∀ y ∈ blkOf st.2.1, w.heap.size ≤ y) ∧ Rdr 134 x p q (intsL N s1 []).2 ∧ Fr [p] w x)
      (fun k st x hk ⟨v, acc, s', hs, o, n, R, hal, _, hI, F⟩ => by
        subst hs
        obtain ⟨x1, e2, R2, f2⟩ := int57 R
        have k0 : decide ((k : Int) < (N : Int)) = true := by simp; omega
        have c2 : x1.cell? ⟨p, 2, none⟩ = some (.int .i64 (intS s').2.e) := R2.blk.cell 2
        have hNk : N - k = (N - (k + 1)) + 1 := by omega
        rw [hNk] at hI
        simp only [intsL] at hI
        by_cases he : (intS s').2.e = 0
        · have k2 : ((intS s').2.e != 0) = false := by simp [he]
          have hzx : w.heap.size ≤ x.heap.size := F.size
          have hpv : p ∉ blkOf v := fun hm => by have := n p hm; omega
          have o1 := o.fr f2 (by intro y hy hm; simp at hm; subst hm; exact hpv hy)
          have ol := o.len
          simp at ol
          obtain ⟨v1, x2, e3, o3, f3, n3, m3⟩ := app_one t28' o1 (ys := [.int .i64 (intS s').1]) rfl (by intro y hy; simp at hy; subst hy; rfl) (by omega) (by omega) 28 #[false, false]
          have hlp2 := R2.blk.lt
          have R3 := R2.fr f3 hpv (fun h0 y hy hm => by have := n y hm; have := hq h0 y hy; omega)
          have kw : IntKind.u64.wrap ((k : Int) + 1) = ((k + 1 : Nat) : Int) := by rw [wrap_u64 (by omega) (by omega)]; omega
          rw [if_neg (by simp [he])] at hI
          refine ⟨.normal, ((none, 0, 0), v1, ((k + 1 : Nat) : Int)), x2, ?_, .inl ⟨rfl, v1, acc ++ [(intS s').1], (intS s').2, rfl, by simpa [numsV] using o3, fun y hy => ?_, R3, by simp [hal], by omega, hI, ?_⟩⟩
          · unfold g57_l4_b
            simp only [k0, e2, addr_add, Nat.zero_add, c2, k2, e3, kw, obs, asP_pointer, asB_bool, asI_int, asS_string, asSl_slice, asM_map, asTup0, asTup1, asTup2, asTup3, asTup4, asTup5, asTup6, asTup7, asTup8, asTup9, asAgg2, asAgg3, asAgg4, asAgg5, asAgg6, asAgg7, asAgg8, asAgg9, asAgg12, getD0, getD1, getD2, getD3, getD4, getD5, getD6, getD7, getD8, getD9, getD10, getD11, getD12, getD13, getD14, getD15, getD16, getD17, getD18, getD19, Bool.not_true, Bool.not_false, Bool.false_eq_true, Bool.true_eq_false, ↓reduceIte, decide_true, decide_false, Option.isNone_some, Option.isNone_none, Option.isSome_some, Option.isSome_none, beq_self_eq_true, bne_self_eq_false, Bool.and_true, Bool.true_and, Bool.and_false, Bool.false_and, not_true_eq_false, not_false_eq_true]
          · have := f2.size
            rcases n3 y hy with h | h
            · exact n y h
            · omega
          · exact (fr1 F f2 |>.app f3).mono (by
              intro y hy hl
              rcases List.mem_append.mp hy with hy | hy
              · exact hy
              · have := n y hy; omega)
        · have k2 : ((intS s').2.e != 0) = true := by simp [he]
          rw [if_pos he] at hI
          refine ⟨.ret, ((none, 0, 0), v, (k : Int)), x1, ?_, .inr ⟨by simp, .inl ⟨rfl, rfl, by rw [hI]⟩, by rw [hI]; exact R2, fr1 F f2⟩⟩
          unfold g57_l4_b
          simp only [k0, e2, addr_add, Nat.zero_add, c2, k2, obs, asP_pointer, asB_bool, asI_int, asS_string, asSl_slice, asM_map, asTup0, asTup1, asTup2, asTup3, asTup4, asTup5, asTup6, asTup7, asTup8, asTup9, asAgg2, asAgg3, asAgg4, asAgg5, asAgg6, asAgg7, asAgg8, asAgg9, asAgg12, getD0, getD1, getD2, getD3, getD4, getD5, getD6, getD7, getD8, getD9, getD10, getD11, getD12, getD13, getD14, getD15, getD16, getD17, getD18, getD19, Bool.not_true, Bool.not_false, Bool.false_eq_true, Bool.true_eq_false, ↓reduceIte, decide_true, decide_false, Option.isNone_some, Option.isNone_none, Option.isSome_some, Option.isSome_none, beq_self_eq_true, bne_self_eq_false, Bool.and_true, Bool.true_and, Bool.and_false, Bool.false_and, not_true_eq_false, not_false_eq_true])
      (fun st x ⟨v, acc, s', hs, o, n, R, hal, _, hI, F⟩ => by
        subst hs
        rw [Nat.sub_self] at hI
        simp only [intsL] at hI
        refine ⟨.exit 0, ((none, 0, 0), v, (N : Int)), x, ?_, by simp, .inr ⟨rfl, by rw [hI]; exact o, n⟩, by rw [hI]; exact R, F⟩
        unfold g57_l4_b
        have k0 : decide ((N : Int) < (N : Int)) = false := by simp
        simp only [k0, Bool.false_eq_true, if_false]) (k := 0) (s := ((none, 0, 0), (none, 0, 0), 0)) (w := w1) (Nat.zero_le _)
      ⟨(none, 0, 0), [], s1, rfl, Own.nil _ _ _, by simp [blkOf], R1, rfl, Nat.zero_le _, by simp, f1⟩
    rw [hu]
    obtain ⟨hv, R2, F2⟩ := hQ
    rcases hv with ⟨rfl, ht, hnil⟩ | ⟨rfl, o, n⟩
    · refine ⟨(none, 0, 0), w2, g57_call ?_, by rw [hnil]; exact Own.nil _ _ _, R2, F2, by simp [blkOf]⟩
      unfold g57
      simp only [e1, k1, obs, asP_pointer, asB_bool, asI_int, asS_string, asSl_slice, asM_map, asTup0, asTup1, asTup2, asTup3, asTup4, asTup5, asTup6, asTup7, asTup8, asTup9, asAgg2, asAgg3, asAgg4, asAgg5, asAgg6, asAgg7, asAgg8, asAgg9, asAgg12, getD0, getD1, getD2, getD3, getD4, getD5, getD6, getD7, getD8, getD9, getD10, getD11, getD12, getD13, getD14, getD15, getD16, getD17, getD18, getD19, Bool.not_true, Bool.not_false, Bool.false_eq_true, Bool.true_eq_false, ↓reduceIte, decide_true, decide_false, Option.isNone_some, Option.isNone_none, Option.isSome_some, Option.isSome_none, beq_self_eq_true, bne_self_eq_false, Bool.and_true, Bool.true_and, Bool.and_false, Bool.false_and, not_true_eq_false, not_false_eq_true]
      rw [g57_l4_ret_of g1, g57_l4_ret, ht]
    · refine ⟨t.2.1, w2, g57_call ?_, o, R2, F2, n⟩
      unfold g57
      simp only [e1, k1, obs, asP_pointer, asB_bool, asI_int, asS_string, asSl_slice, asM_map, asTup0, asTup1, asTup2, asTup3, asTup4, asTup5, asTup6, asTup7, asTup8, asTup9, asAgg2, asAgg3, asAgg4, asAgg5, asAgg6, asAgg7, asAgg8, asAgg9, asAgg12, getD0, getD1, getD2, getD3, getD4, getD5, getD6, getD7, getD8, getD9, getD10, getD11, getD12, getD13, getD14, getD15, getD16, getD17, getD18, getD19, Bool.not_true, Bool.not_false, Bool.false_eq_true, Bool.true_eq_false, ↓reduceIte, decide_true, decide_false, Option.isNone_some, Option.isNone_none, Option.isSome_some, Option.isSome_none, beq_self_eq_true, bne_self_eq_false, Bool.and_true, Bool.true_and, Bool.and_false, Bool.false_and, not_true_eq_false, not_false_eq_true]
      rw [g57_l4_x0_of g1, g57_l4_x0]

theorem ints47 (h : Rdr 101 w p q s) : ∃ v w', callF Try.prog 53 #[.pointer (some ⟨p, 0, none⟩)] w = some (.slice v.1 v.2.1 v.2.2, w') ∧ Own w' 3 1 v (numsV (intsS s).1) ∧ Rdr 101 w' p q (intsS s).2 ∧ Fr [p] w w' ∧ ∀ y ∈ blkOf v, w.heap.size ≤ y := by
  have hml : maxLen = 9223372036854775807 := by decide
  have hq : 0 < q.2.1 → ∀ y ∈ blkOf q, y < w.heap.size := fun h0 y hy => h.txt.slC.lt (by have := h.txt.1; simp; omega) y hy
  obtain ⟨w1, e1, R1, f1⟩ := uint46 h
  have hlp := h.blk.lt
  have hle0 : (uintS s).2.e ≠ 0 → (uintS s).1 = 0 := by
    by_cases h0 : s.e = 0
    · rw [uintS_of h0]
      cases rdU (s.bs.drop s.at_) 0 with
      | eof => intro _; rfl
      | bad => intro _; rfl
      | ok n l => intro hh; exact absurd h0 hh
    · intro _
      unfold uintS
      rw [if_pos h0]
  have c2 : w1.cell? ⟨p, 2, none⟩ = some (.int .i64 (uintS s).2.e) := R1.blk.cell 2
  by_cases he : (uintS s).2.e = 0
  · have k2 : ((uintS s).2.e == 0) = true := by simp [he]
    have k2' : ((uintS s).2.e != 0) = false := by simp [he]
    by_cases h4 : 4096 < (uintS s).1
    · obtain ⟨w2, e2, R2, f2⟩ := fail69 R1 2
      have hu : intsS s = ([], (uintS s).2.fail 2) := by unfold intsS; rw [if_pos h4]
      have k1 : decide (((uintS s).1 : Int) > 4096) = true := by simp; omega
      have d2 : w2.cell? ⟨p, 2, none⟩ = some (.int .i64 2) := by
        have := R2.blk.cell 2
        have h2 : ((uintS s).2.fail 2).e = 2 := by unfold RS.fail; simp [he]
        rw [h2] at this
        exact this
      have k3 : ((2 : Int) != 0) = true := rfl
      rw [hu]
      refine ⟨(none, 0, 0), w2, g53_call ?_, Own.nil _ _ _, R2, fr1 f1 f2, by simp [blkOf]⟩
      unfold g53
      simp only [e1, addr_add, Nat.zero_add, c2, k2, k1, e2, g53_j3, d2, k3, obs, asP_pointer, asB_bool, asI_int, asS_string, asSl_slice, asM_map, asTup0, asTup1, asTup2, asTup3, asTup4, asTup5, asTup6, asTup7, asTup8, asTup9, asAgg2, asAgg3, asAgg4, asAgg5, asAgg6, asAgg7, asAgg8, asAgg9, asAgg12, getD0, getD1, getD2, getD3, getD4, getD5, getD6, getD7, getD8, getD9, getD10, getD11, getD12, getD13, getD14, getD15, getD16, getD17, getD18, getD19, Bool.not_true, Bool.not_false, Bool.false_eq_true, Bool.true_eq_false, ↓reduceIte, decide_true, decide_false, Option.isNone_some, Option.isNone_none, Option.isSome_some, Option.isSome_none, beq_self_eq_true, bne_self_eq_false, Bool.and_true, Bool.true_and, Bool.and_false, Bool.false_and, not_true_eq_false, not_false_eq_true]
    · have k1 : decide (((uintS s).1 : Int) > 4096) = false := by simp; omega
      have hu : intsS s = intsL (uintS s).1 (uintS s).2 [] := by unfold intsS; rw [if_neg h4]
      obtain ⟨N, hN⟩ : ∃ N, (uintS s).1 = N := ⟨_, rfl⟩
      obtain ⟨s1, hs1⟩ : ∃ s1, (uintS s).2 = s1 := ⟨_, rfl⟩
      rw [hN, hs1] at hu
      rw [hN] at e1 k1 h4
      rw [hs1] at R1 c2 k2 k2' he
      have wN : IntKind.i64.wrap (N : Int) = (N : Int) := wrap_i64 (by omega) (by omega)
      obtain ⟨e, t, w2, g1, rfl, s', hO, R2, F2⟩ := loopS_rule (b := g53_l12_b (N : Int) (some ⟨p, 0, none⟩)) (n := N)
        (I := fun k st x => ∃ (v : ShT) (acc : List Int) (s' : RS), st = (v, (k : Int)) ∧ Own x 3 1 v (numsV acc) ∧ (∀ y ∈ blkOf v, w.heap.size ≤ y) ∧ Rdr 101 x p q s' ∧ acc.length = k ∧ k ≤ N ∧ (s'.e = 0 ∧ intsL N s1 [] = intsL (N - k) s' acc ∨ s'.e ≠ 0 ∧ intsL N s1 [] = ([], s')) ∧ Fr [p] w x)
        (Q := fun e st x => e = .exit 0 ∧ ∃ s' : RS, (s'.e = 0 ∧ (∃ acc, intsL N s1 [] = (acc, s') ∧ Own x 3 1 st.1 (numsV acc)) ∧ (∀ y ∈ blkOf st.1, w.heap.size ≤ y) ∨ s'.e ≠ 0 ∧ intsL N s1 [] = ([], s')) ∧ Rdr 101 x p q s' ∧ Fr [p] w x)
        (fun k st x hk ⟨v, acc, s', hs, o, n, R, hal, _, hI, F⟩ => by
          subst hs
          have k0 : decide ((k : Int) < (N : Int)) = true := by simp; omega
          have c2 : x.cell? ⟨p, 2, none⟩ = some (.int .i64 s'.e) := R.blk.cell 2
          rcases hI with ⟨he', hI⟩ | ⟨he', hI⟩
          · have k3 : (s'.e == 0) = true := by simp [he']
            obtain ⟨x1, e2, R2, f2⟩ := int45 R
            have hNk : N - k = (N - (k + 1)) + 1 := by omega
            rw [hNk] at hI
            simp only [intsL] at hI
            have hzx : w.heap.size ≤ x.heap.size := F.size
            have hpv : p ∉ blkOf v := fun hm => by have := n p hm; omega
            have o1 := o.fr f2 (by intro y hy hm; simp at hm; subst hm; exact hpv hy)
            have ol := o.len
            simp at ol
            obtain ⟨v1, x2, e3, o3, f3, n3, m3⟩ := app_one t28' o1 (ys := [.int .i64 (intS s').1]) rfl (by intro y hy; simp at hy; subst hy; rfl) (by omega) (by omega) 28 #[false, false]
            have R3 := R2.fr f3 hpv (fun h0 y hy hm => by have := n y hm; have := hq h0 y hy; omega)
            have kw := wrap_succ (n := k) (by omega)
            refine ⟨.normal, (v1, ((k + 1 : Nat) : Int)), x2, ?_, .inl ⟨rfl, v1, acc ++ [(intS s').1], (intS s').2, rfl, by simpa [numsV] using o3, fun y hy => ?_, R3, by simp [hal], by omega, ?_, ?_⟩⟩
            · unfold g53_l12_b
              simp only [wN, k0, addr_add, Nat.zero_add, c2, k3, e2, e3, kw, obs, asP_pointer, asB_bool, asI_int, asS_string, asSl_slice, asM_map, asTup0, asTup1, asTup2, asTup3, asTup4, asTup5, asTup6, asTup7, asTup8, asTup9, asAgg2, asAgg3, asAgg4, asAgg5, asAgg6, asAgg7, asAgg8, asAgg9, asAgg12, getD0, getD1, getD2, getD3, getD4, getD5, getD6, getD7, getD8, getD9, getD10, getD11, getD12, getD13, getD14, getD15, getD16, getD17, getD18, getD19, Bool.not_true, Bool.not_false, Bool.false_eq_true, Bool.true_eq_false, ↓reduceIte, decide_true, decide_false, Option.isNone_some, Option.isNone_none, Option.isSome_some, Option.isSome_none, beq_self_eq_true, bne_self_eq_false, Bool.and_true, Bool.true_and, Bool.and_false, Bool.false_and, not_true_eq_false, not_false_eq_true]
            · have := f2.size
              rcases n3 y hy with h | h
              · exact n y h
              · omega
            · by_cases he2 : (intS s').2.e = 0
              · exact .inl ⟨he2, by rw [hI, if_neg (by simp [he2])]⟩
              · exact .inr ⟨he2, by rw [hI, if_pos he2]⟩
            · exact (fr1 F f2 |>.app f3).mono (by
                intro y hy hl
                rcases List.mem_append.mp hy with hy | hy
                · exact hy
                · have := n y hy; omega)
          · have k3 : (s'.e == 0) = false := by simp [he']
            refine ⟨.exit 0, (v, (k : Int)), x, ?_, .inr ⟨by simp, rfl, s', .inr ⟨he', hI⟩, R, F⟩⟩
            unfold g53_l12_b
            simp only [wN, k0, addr_add, Nat.zero_add, c2, k3, obs, asP_pointer, asB_bool, asI_int, asS_string, asSl_slice, asM_map, asTup0, asTup1, asTup2, asTup3, asTup4, asTup5, asTup6, asTup7, asTup8, asTup9, asAgg2, asAgg3, asAgg4, asAgg5, asAgg6, asAgg7, asAgg8, asAgg9, asAgg12, getD0, getD1, getD2, getD3, getD4, getD5, getD6, getD7, getD8, getD9, getD10, getD11, getD12, getD13, getD14, getD15, getD16, getD17, getD18, getD19, Bool.not_true, Bool.not_false, Bool.false_eq_true, Bool.true_eq_false, ↓reduceIte, decide_true, decide_false, Option.isNone_some, Option.isNone_none, Option.isSome_some, Option.isSome_none, beq_self_eq_true, bne_self_eq_false, Bool.and_true, Bool.true_and, Bool.and_false, Bool.false_and, not_true_eq_false, not_false_eq_true])
        (fun st x ⟨v, acc, s', hs, o, n, R, hal, _, hI, F⟩ => by
          subst hs
          refine ⟨.exit 0, (v, (N : Int)), x, ?_, by simp, rfl, s', ?_, R, F⟩
          · unfold g53_l12_b
            have k0 : decide ((N : Int) < (N : Int)) = false := by simp
            simp only [wN, k0, Bool.false_eq_true, if_false]
          · rcases hI with ⟨he', hI⟩ | ⟨he', hI⟩
            · rw [Nat.sub_self] at hI
              exact .inl ⟨he', ⟨acc, hI, o⟩, n⟩
            · exact .inr ⟨he', hI⟩) (k := 0) (s := ((none, 0, 0), 0)) (w := w1) (Nat.zero_le _)
        ⟨(none, 0, 0), [], s1, rfl, Own.nil _ _ _, by simp [blkOf], R1, rfl, Nat.zero_le _, .inl ⟨he, by simp⟩, f1⟩
      rw [hu]
      have d2 : w2.cell? ⟨p, 2, none⟩ = some (.int .i64 s'.e) := R2.blk.cell 2
      rcases hO with ⟨he', ⟨acc, hI, o⟩, n⟩ | ⟨he', hI⟩
      · have k3 : (s'.e != 0) = false := by simp [he']
        rw [hI]
        refine ⟨t.1, w2, g53_call ?_, o, R2, F2, n⟩
        unfold g53
        simp only [e1, addr_add, Nat.zero_add, c2, k2, k1, g53_j3, k2', obs, asP_pointer, asB_bool, asI_int, asS_string, asSl_slice, asM_map, asTup0, asTup1, asTup2, asTup3, asTup4, asTup5, asTup6, asTup7, asTup8, asTup9, asAgg2, asAgg3, asAgg4, asAgg5, asAgg6, asAgg7, asAgg8, asAgg9, asAgg12, getD0, getD1, getD2, getD3, getD4, getD5, getD6, getD7, getD8, getD9, getD10, getD11, getD12, getD13, getD14, getD15, getD16, getD17, getD18, getD19, Bool.not_true, Bool.not_false, Bool.false_eq_true, Bool.true_eq_false, ↓reduceIte, decide_true, decide_false, Option.isNone_some, Option.isNone_none, Option.isSome_some, Option.isSome_none, beq_self_eq_true, bne_self_eq_false, Bool.and_true, Bool.true_and, Bool.and_false, Bool.false_and, not_true_eq_false, not_false_eq_true]
        rw [g53_l12_x0_of g1]
        unfold g53_l12_x0
        simp only [addr_add, Nat.zero_add, d2, k3, obs, asP_pointer, asB_bool, asI_int, asS_string, asSl_slice, asM_map, asTup0, asTup1, asTup2, asTup3, asTup4, asTup5, asTup6, asTup7, asTup8, asTup9, asAgg2, asAgg3, asAgg4, asAgg5, asAgg6, asAgg7, asAgg8, asAgg9, asAgg12, getD0, getD1, getD2, getD3, getD4, getD5, getD6, getD7, getD8, getD9, getD10, getD11, getD12, getD13, getD14, getD15, getD16, getD17, getD18, getD19, Bool.not_true, Bool.not_false, Bool.false_eq_true, Bool.true_eq_false, ↓reduceIte, decide_true, decide_false, Option.isNone_some, Option.isNone_none, Option.isSome_some, Option.isSome_none, beq_self_eq_true, bne_self_eq_false, Bool.and_true, Bool.true_and, Bool.and_false, Bool.false_and, not_true_eq_false, not_false_eq_true]
      · have k3 : (s'.e != 0) = true := by simp [he']
        rw [hI]
        refine ⟨(none, 0, 0), w2, g53_call ?_, Own.nil _ _ _, R2, F2, by simp [blkOf]⟩
        unfold g53
        simp only [e1, addr_add, Nat.zero_add, c2, k2, k1, g53_j3, k2', obs, asP_pointer, asB_bool, asI_int, asS_string, asSl_slice, asM_map, asTup0, asTup1, asTup2, asTup3, asTup4, asTup5, asTup6, asTup7, asTup8, asTup9, asAgg2, asAgg3, asAgg4, asAgg5, asAgg6, asAgg7, asAgg8, asAgg9, asAgg12, getD0, getD1, getD2, getD3, getD4, getD5, getD6, getD7, getD8, getD9, getD10, getD11, getD12, getD13, getD14, getD15, getD16, getD17, getD18, getD19, Bool.not_true, Bool.not_false, Bool.false_eq_true, Bool.true_eq_false, ↓reduceIte, decide_true, decide_false, Option.isNone_some, Option.isNone_none, Option.isSome_some, Option.isSome_none, beq_self_eq_true, bne_self_eq_false, Bool.and_true, Bool.true_and, Bool.and_false, Bool.false_and, not_true_eq_false, not_false_eq_true]
        rw [g53_l12_x0_of g1]
        unfold g53_l12_x0
        simp only [addr_add, Nat.zero_add, d2, k3, obs, asP_pointer, asB_bool, asI_int, asS_string, asSl_slice, asM_map, asTup0, asTup1, asTup2, asTup3, asTup4, asTup5, asTup6, asTup7, asTup8, asTup9, asAgg2, asAgg3, asAgg4, asAgg5, asAgg6, asAgg7, asAgg8, asAgg9, asAgg12, getD0, getD1, getD2, getD3, getD4, getD5, getD6, getD7, getD8, getD9, getD10, getD11, getD12, getD13, getD14, getD15, getD16, getD17, getD18, getD19, Bool.not_true, Bool.not_false, Bool.false_eq_true, Bool.true_eq_false, ↓reduceIte, decide_true, decide_false, Option.isNone_some, Option.isNone_none, Option.isSome_some, Option.isSome_none, beq_self_eq_true, bne_self_eq_false, Bool.and_true, Bool.true_and, Bool.and_false, Bool.false_and, not_true_eq_false, not_false_eq_true]
  · have hn0 := hle0 he
    have k2 : ((uintS s).2.e == 0) = false := by simp [he]
    have k2' : ((uintS s).2.e != 0) = true := by simp [he]
    have hu : intsS s = ([], (uintS s).2) := by unfold intsS; rw [if_neg (by omega), hn0]; rfl
    rw [hu]
    refine ⟨(none, 0, 0), w1, g53_call ?_, Own.nil _ _ _, R1, f1, by simp [blkOf]⟩
    unfold g53
    simp only [e1, addr_add, Nat.zero_add, c2, k2, g53_j3, k2', obs, asP_pointer, asB_bool, asI_int, asS_string, asSl_slice, asM_map, asTup0, asTup1, asTup2, asTup3, asTup4, asTup5, asTup6, asTup7, asTup8, asTup9, asAgg2, asAgg3, asAgg4, asAgg5, asAgg6, asAgg7, asAgg8, asAgg9, asAgg12, getD0, getD1, getD2, getD3, getD4, getD5, getD6, getD7, getD8, getD9, getD10, getD11, getD12, getD13, getD14, getD15, getD16, getD17, getD18, getD19, Bool.not_true, Bool.not_false, Bool.false_eq_true, Bool.true_eq_false, ↓reduceIte, decide_true, decide_false, Option.isNone_some, Option.isNone_none, Option.isSome_some, Option.isSome_none, beq_self_eq_true, bne_self_eq_false, Bool.and_true, Bool.true_and, Bool.and_false, Bool.false_and, not_true_eq_false, not_false_eq_true]
end
end Go.Proofs.Ytjcenfgmpbeldaa
