/-
  DiskRf: lemmas on what Go functions of this seat come to (for whatever arguments, as each says). No condition but those that stand in each lemma.
-/
import Derived.Test.YtkmidlhnlnolnaaDiskRe
import Derived.Test.YtkmidlhnlnolnaaDiskL6
namespace Go.Proofs.Ytkmidlhnlnolnaa
open Go Go.Ev
set_option maxRecDepth 100000
set_option linter.unusedVariables false
set_option linter.unusedSimpArgs false

def manyL (n : Nat) : List Int := (List.range n).map fun i => ((i % 256 : Nat) : Int)
theorem manyL_len (n : Nat) : (manyL n).length = n := by simp [manyL]
theorem manyL_succ (n : Nat) : manyL (n + 1) = manyL n ++ [((n % 256 : Nat) : Int)] := by simp [manyL, List.range_succ]
theorem manyL_zs (n : Nat) : Zs (manyL n) := by
  intro z hz
  obtain ⟨i, _, rfl⟩ := List.mem_map.mp hz
  have : i % 256 < 256 := Nat.mod_lt _ (by decide)
  constructor <;> omega

section
variable {W x : World} {b c : Nat} {A : List (ByteArray × FV)} {fuse : Int} {dead : Bool}

theorem RD.after {x x1 : World} {D D1 E : Nat → Prop} {qf : ShS} {es : List RE} (hE : RD x E c qf es fuse dead) (C1 : Chg D x x1 D1) (ap : ∀ y, D y → ¬ E y) : RD x1 E c qf es fuse dead := by
  obtain ⟨S, fS, hS⟩ := C1.fr
  exact hE.fr fS (fun y hy _ he => ap y (hS y hy) he)

/-- the bytes that `many` makes, however many are asked for -/
theorem many16' (W : World) {n : Int} (hn : -9223372036854775808 ≤ n ∧ n ≤ 9223372036854775807) : ∃ (q : ShS) (w' : World) (L : Nat), callF Try.prog 16 #[.int .i64 n] W = some (.slice q.1 q.2.1 q.2.2, w') ∧ Own w' 5 1 q ((manyL L).map (Value.int .u8)) ∧ Fr [] W w' ∧ (∀ y ∈ blkOf q, W.heap.size ≤ y) ∧ L ≤ 4194305 := by
  have hml : maxLen = 9223372036854775807 := by decide
  obtain ⟨L, hL⟩ : ∃ L : Nat, L = min n.toNat 4194305 := ⟨_, rfl⟩
  obtain ⟨t, w1, g1, hk, o, f, nn⟩ := loopS_countX 0 (b := g16_l1_b n) (n := L)
    (I := fun k s x => s.2 = (k : Int) ∧ Own x 5 1 s.1 ((manyL k).map (Value.int .u8)) ∧ Fr [] W x ∧ ∀ y ∈ blkOf s.1, W.heap.size ≤ y)
    (fun k s x hk ⟨hs, ho, hf, hn'⟩ => by
      obtain ⟨s1, s2⟩ := s
      simp only at hs ho hn'
      subst hs
      have hol := ho.len
      simp only [List.length_map, manyL_len, Nat.mul_one] at hol
      have wu : IntKind.u8.wrap (k : Int) = ((k % 256 : Nat) : Int) := by
        have e : IntKind.u8.wrap (k : Int) = (k : Int) % 256 := by simp [IntKind.wrap, IntKind.bits, IntKind.signed]
        rw [e]; omega
      obtain ⟨q1, x2, a2, o2, f2, m2, l2⟩ := app_one t28 ho (ys := [.int .u8 ((k % 256 : Nat) : Int)]) rfl (by intro y hy; simp at hy; subst hy; rfl) (by omega) (by omega) 28 #[false, false]
      have k0 : decide ((k : Int) < n) = true := by simp; omega
      have k1 : decide ((k : Int) ≤ 4194304) = true := by simp; omega
      have kw := wrap_succ (n := k) (by omega)
      have a2' : callB Try.prog .append #[28, 28] 28 #[false, false] #[.slice s1.1 s1.2.1 s1.2.2, .slice (some ⟨x.heap.size, 0, none⟩) 1 1] (x.alloc (.cells #[.int .u8 ((k % 256 : Nat) : Int)] 5)) = some (.slice q1.1 q1.2.1 q1.2.2, x2) := a2
      have zz := hf.size
      refine ⟨(q1, ((k + 1 : Nat) : Int)), x2, ?_, rfl, ?_, (hf.app f2).mono ?_, fun y hy => ?_⟩
      · unfold g16_l1_b
        simp only [k0, k1, wu, a2', kw, obs, asP_pointer, asB_bool, asI_int, asS_string, asSl_slice, asM_map, asTup0, asTup1, asTup2, asTup3, asTup4, asTup5, asTup6, asTup7, asTup8, asTup9, asAgg2, asAgg3, asAgg4, asAgg5, asAgg6, asAgg7, asAgg8, asAgg9, asAgg12, getD0, getD1, getD2, getD3, getD4, getD5, getD6, getD7, getD8, getD9, getD10, getD11, getD12, getD13, getD14, getD15, getD16, getD17, getD18, getD19, Bool.not_true, Bool.not_false, Bool.false_eq_true, Bool.true_eq_false, ↓reduceIte, decide_true, decide_false, Option.isNone_some, Option.isNone_none, Option.isSome_some, Option.isSome_none, beq_self_eq_true, bne_self_eq_false, Bool.and_true, Bool.true_and, Bool.and_false, Bool.false_and, not_true_eq_false, not_false_eq_true]
      · rw [manyL_succ, List.map_append]; exact o2
      · intro y hy hlt
        simp at hy
        have := hn' y hy; omega
      · rcases m2 y hy with hh | hh
        · exact hn' y hh
        · omega)
    (fun s x ⟨hs, _⟩ => by
      obtain ⟨s1, s2⟩ := s
      simp only at hs
      subst hs
      unfold g16_l1_b
      by_cases h0 : (L : Int) < n
      · have k0 : decide ((L : Int) < n) = true := by simp only [h0, decide_true]
        have k1 : decide ((L : Int) ≤ 4194304) = false := by simp; omega
        simp only [k0, k1, Bool.false_eq_true, if_false, if_true]
      · have k0 : decide ((L : Int) < n) = false := by simp only [h0, decide_false]
        simp only [k0, Bool.false_eq_true, if_false]) (k := 0) (s := ((none, 0, 0), 0)) (w := W) (Nat.zero_le _) ⟨rfl, Own.nil W 5 1, Fr.refl _ _, by simp [blkOf]⟩
  refine ⟨t.1, w1, L, g16_call ?_, o, f, nn, by omega⟩
  unfold g16
  rw [g16_l1_x0_of g1, g16_l1_x0]

/-- the law's own bytes are overwritten -/
theorem ones16 {x : World} {q : ShS} {xs : List Int} (o : Own x 5 1 q (xs.map (Value.int .u8))) (hl : xs.length ≤ 140737488351232) (u1 : Option Addr) (w0 : World) (n10 : Int) (b14 : Bool) :
    ∃ (t : Int) (x' : World), g22_l16 u1 w0 q n10 b14 0 x = g22_l16_x1 b14 w0 u1 n10 t x' ∧ Fr (blkOf q) x x' := by
  have hol := o.len
  simp at hol
  obtain ⟨t, x', g1, hs, ys, o2, hy, f2⟩ := loopS_countX 1 (b := g22_l16_b q u1 w0 n10 b14) (n := xs.length)
    (I := fun k s y => s = (k : Int) ∧ ∃ ys : List Value, Own y 5 1 q ys ∧ ys.length = xs.length ∧ Fr (blkOf q) x y)
    (fun k s y hk ⟨hs, ys, ho, hy, hf⟩ => by
      subst hs
      obtain ⟨g, off, ha, hi⟩ := ho.idx (i := k) (by omega)
      obtain ⟨s1, o1, f1⟩ := ho.set ha (k := k) (by omega) (u := .int .u8 1) rfl
      have k0 : decide ((k : Int) < (q.2.1 : Int)) = true := by simp; omega
      have kw := wrap_succ (n := k) (by omega)
      rw [Nat.mul_one] at hi
      refine ⟨_, _, ?_, rfl, _, o1, by simpa using hy, (hf.app f1).mono (by intro z hz _; simpa using hz)⟩
      unfold g22_l16_b
      simp only [k0, hi, s1, kw, obs, asP_pointer, asB_bool, asI_int, asS_string, asSl_slice, asM_map, asTup0, asTup1, asTup2, asTup3, asTup4, asTup5, asTup6, asTup7, asTup8, asTup9, asAgg2, asAgg3, asAgg4, asAgg5, asAgg6, asAgg7, asAgg8, asAgg9, asAgg12, getD0, getD1, getD2, getD3, getD4, getD5, getD6, getD7, getD8, getD9, getD10, getD11, getD12, getD13, getD14, getD15, getD16, getD17, getD18, getD19, Bool.not_true, Bool.not_false, Bool.false_eq_true, Bool.true_eq_false, ↓reduceIte, decide_true, decide_false, Option.isNone_some, Option.isNone_none, Option.isSome_some, Option.isSome_none, beq_self_eq_true, bne_self_eq_false, Bool.and_true, Bool.true_and, Bool.and_false, Bool.false_and, not_true_eq_false, not_false_eq_true])
    (fun s y ⟨hs, _⟩ => by
      subst hs
      have k0 : decide ((xs.length : Int) < (q.2.1 : Int)) = false := by simp; omega
      unfold g22_l16_b
      simp only [k0, Bool.false_eq_true, if_false]) (k := 0) (s := 0) (w := x) (Nat.zero_le _) ⟨rfl, _, o, by simp, Fr.refl _ _⟩
  exact ⟨t, x', g22_l16_x1_of g1, f2⟩

theorem do22 (h : Sim W x b c A fuse dead) (kd : Int) (n t : ByteArray) {q : ShS} {p : List Int} (hp : Sl8 W q p) (hz : Zs p) (hc : q.2.1 ≤ q.2.2) (hpl : p.length ≤ 140737488351232) {N : Int} (hN : -9223372036854775808 ≤ N ∧ N ≤ 9223372036854775807) :
    ∃ (v : Bool) (A' : List (ByteArray × FV)) (fuse' : Int) (dead' : Bool) (x' : World), callF Try.prog 22 #[.pointer (some ⟨b, 0, none⟩), .pointer (some ⟨c, 0, none⟩), .agg #[.int .i64 kd, .string n, .string t, .slice q.1 q.2.1 q.2.2, .int .i64 N]] x = some (.bool v, x') ∧ Sim W x' b c A' fuse' dead' := by
  have f0 : Fr [] x (x.alloc (.cells #[.int .i64 kd, .string n, .string t, .slice q.1 q.2.1 q.2.2, .int .i64 N] 47)) := Fr.alloc _
  have b0 : Blk (x.alloc (.cells #[.int .i64 kd, .string n, .string t, .slice q.1 q.2.1 q.2.2, .int .i64 N] 47)) x.heap.size [.int .i64 kd, .string n, .string t, .slice q.1 q.2.1 q.2.2, .int .i64 N] 47 := Blk.new x [.int .i64 kd, .string n, .string t, .slice q.1 q.2.1 q.2.2, .int .i64 N] 47
  obtain ⟨x0, hx0⟩ : ∃ x0, x.alloc (.cells #[.int .i64 kd, .string n, .string t, .slice q.1 q.2.1 q.2.2, .int .i64 N] 47) = x0 := ⟨_, rfl⟩
  rw [hx0] at f0 b0
  have hxs := h
  obtain ⟨⟨D, E, qf, es, hD, hE, hperm, ap, dW, eW⟩, hF⟩ := h
  have hk := hD.kone
  have hkR : kone (es.map RE.ab) := kone_perm hk hperm
  have F0 : Fr [] W x0 := (Fr.mono (Fr.app hF f0) (by have z0_ := Fr.size hF; have z1_ := Fr.size f0; intro y_ hy_ hl_; grind [blkOf]))
  have c0 : x0.cell? ⟨x.heap.size, 0, none⟩ = some (.int .i64 kd) := b0.cell 0
  have c4 : x0.cell? ⟨x.heap.size, 4, none⟩ = some (.int .i64 N) := b0.cell 4
  -- the temporary block is kept
  have keepB : ∀ {y z : World} {D1 : Nat → Prop}, Blk y x.heap.size [.int .i64 kd, .string n, .string t, .slice q.1 q.2.1 q.2.2, .int .i64 N] 47 → Chg D y z D1 → Blk z x.heap.size [.int .i64 kd, .string n, .string t, .slice q.1 q.2.1 q.2.2, .int .i64 N] 47 := by
    intro y z D1 hb C
    obtain ⟨S, fS, hS⟩ := C.fr
    exact hb.fr fS (fun hm => by have := hD.lt _ (hS _ hm); omega)
  have hD0 := hD.fr f0 (by simp)
  have hE0 := hE.fr f0 (by simp)
  have fd := Fr.drew [] x0
  have Fd : Fr [] W x0.drew := (Fr.mono (Fr.app F0 fd) (by have z0_ := Fr.size F0; have z1_ := Fr.size fd; intro y_ hy_ hl_; grind [blkOf]))
  have hDd := hD0.fr fd (by simp)
  have hEd := hE0.fr fd (by simp)
  have bd := b0.fr fd (by simp)
  have d1 : x0.drew.cell? ⟨x.heap.size, 1, none⟩ = some (.string n) := bd.cell 1
  have d2 : x0.drew.cell? ⟨x.heap.size, 2, none⟩ = some (.string t) := bd.cell 2
  have d4 : x0.drew.cell? ⟨x.heap.size, 4, none⟩ = some (.int .i64 N) := bd.cell 4
  by_cases q1 : kd = 1
  · subst q1
    obtain ⟨x1, e1, hD1, C1⟩ := sync13 hDd n
    have b1 := keepB bd C1
    have g1 : x1.cell? ⟨x.heap.size, 1, none⟩ = some (.string n) := b1.cell 1
    have hE1 := hEd.after C1 ap
    obtain ⟨E', es', x2, e2, hR, hm, C2⟩ := sync29 hE1 hkR n
    refine ⟨(syncA A dead n).1 == (syncA (es.map RE.ab) dead n).1, _, _, _, x2, g22_call ?_, sim_step Fd hDd hEd ap dW eW hD1 C1 (fun _ => ⟨qf, es', E', hR, C2, by rw [hm]; exact (sync_perm hk hperm dead n).2⟩)⟩
    · have J : ∀ u2c0 u2c1 u2c2 u2c3 u2c4 x52, g22_j49 (some ⟨c, 0, none⟩) x u2c0 u2c1 u2c2 u2c3 u2c4 x52 n x1 = some (.bool (x52 == (syncA (es.map RE.ab) dead n).1), x2) := by
        intro u2c0 u2c1 u2c2 u2c3 u2c4 x52
        unfold g22_j49
        simp only [e2, obs, asP_pointer, asB_bool, asI_int, asS_string, asSl_slice, asM_map, asTup0, asTup1, asTup2, asTup3, asTup4, asTup5, asTup6, asTup7, asTup8, asTup9, asAgg2, asAgg3, asAgg4, asAgg5, asAgg6, asAgg7, asAgg8, asAgg9, asAgg12, getD0, getD1, getD2, getD3, getD4, getD5, getD6, getD7, getD8, getD9, getD10, getD11, getD12, getD13, getD14, getD15, getD16, getD17, getD18, getD19, Bool.not_true, Bool.not_false, Bool.false_eq_true, Bool.true_eq_false, ↓reduceIte, decide_true, decide_false, Option.isNone_some, Option.isNone_none, Option.isSome_some, Option.isSome_none, beq_self_eq_true, bne_self_eq_false, Bool.and_true, Bool.true_and, Bool.and_false, Bool.false_and, not_true_eq_false, not_false_eq_true]
      have z0 : ((1 : Int) == 0) = false := rfl
      have z1 : ((1 : Int) == 1) = true := rfl
      unfold g22
      simp only [hx0, c0, z0, z1, addr_add, Nat.zero_add, d1, e1, g1, J, ite_self, obs, asP_pointer, asB_bool, asI_int, asS_string, asSl_slice, asM_map, asTup0, asTup1, asTup2, asTup3, asTup4, asTup5, asTup6, asTup7, asTup8, asTup9, asAgg2, asAgg3, asAgg4, asAgg5, asAgg6, asAgg7, asAgg8, asAgg9, asAgg12, getD0, getD1, getD2, getD3, getD4, getD5, getD6, getD7, getD8, getD9, getD10, getD11, getD12, getD13, getD14, getD15, getD16, getD17, getD18, getD19, Bool.not_true, Bool.not_false, Bool.false_eq_true, Bool.true_eq_false, ↓reduceIte, decide_true, decide_false, Option.isNone_some, Option.isNone_none, Option.isSome_some, Option.isSome_none, beq_self_eq_true, bne_self_eq_false, Bool.and_true, Bool.true_and, Bool.and_false, Bool.false_and, not_true_eq_false, not_false_eq_true]
  by_cases q2 : kd = 2
  · subst q2
    obtain ⟨x1, e1, hD1, C1⟩ := cut23 hDd n N
    have b1 := keepB bd C1
    have g1 : x1.cell? ⟨x.heap.size, 1, none⟩ = some (.string n) := b1.cell 1
    have g4 : x1.cell? ⟨x.heap.size, 4, none⟩ = some (.int .i64 N) := b1.cell 4
    have hE1 := hEd.after C1 ap
    obtain ⟨E', es', x2, e2, hR, hm, C2⟩ := cut30 hE1 hkR n N
    refine ⟨(cutA A dead n N).1 == (cutA (es.map RE.ab) dead n N).1, _, _, _, x2, g22_call ?_, sim_step Fd hDd hEd ap dW eW hD1 C1 (fun _ => ⟨qf, es', E', hR, C2, by rw [hm]; exact (cut_perm hk hperm dead n N).2⟩)⟩
    · have J : ∀ u2c0 u2c1 u2c2 u2c3 u2c4 x106, g22_j99 (some ⟨c, 0, none⟩) x u2c0 u2c1 u2c2 u2c3 u2c4 x106 n N x1 = some (.bool (x106 == (cutA (es.map RE.ab) dead n N).1), x2) := by
        intro u2c0 u2c1 u2c2 u2c3 u2c4 x106
        unfold g22_j99
        simp only [e2, obs, asP_pointer, asB_bool, asI_int, asS_string, asSl_slice, asM_map, asTup0, asTup1, asTup2, asTup3, asTup4, asTup5, asTup6, asTup7, asTup8, asTup9, asAgg2, asAgg3, asAgg4, asAgg5, asAgg6, asAgg7, asAgg8, asAgg9, asAgg12, getD0, getD1, getD2, getD3, getD4, getD5, getD6, getD7, getD8, getD9, getD10, getD11, getD12, getD13, getD14, getD15, getD16, getD17, getD18, getD19, Bool.not_true, Bool.not_false, Bool.false_eq_true, Bool.true_eq_false, ↓reduceIte, decide_true, decide_false, Option.isNone_some, Option.isNone_none, Option.isSome_some, Option.isSome_none, beq_self_eq_true, bne_self_eq_false, Bool.and_true, Bool.true_and, Bool.and_false, Bool.false_and, not_true_eq_false, not_false_eq_true]
      have J83 : ∀ u2c0 u2c1 u2c2 u2c3 u2c4 x94, g22_j83 x (some ⟨c, 0, none⟩) u2c0 u2c1 u2c2 u2c3 u2c4 x94 n x1 = some (.bool (x94 == (cutA (es.map RE.ab) dead n N).1), x2) := by
        intro u2c0 u2c1 u2c2 u2c3 u2c4 x94
        unfold g22_j83
        simp only [addr_add, Nat.zero_add, g4, obs, asP_pointer, asB_bool, asI_int, asS_string, asSl_slice, asM_map, asTup0, asTup1, asTup2, asTup3, asTup4, asTup5, asTup6, asTup7, asTup8, asTup9, asAgg2, asAgg3, asAgg4, asAgg5, asAgg6, asAgg7, asAgg8, asAgg9, asAgg12, getD0, getD1, getD2, getD3, getD4, getD5, getD6, getD7, getD8, getD9, getD10, getD11, getD12, getD13, getD14, getD15, getD16, getD17, getD18, getD19, Bool.not_true, Bool.not_false, Bool.false_eq_true, Bool.true_eq_false, ↓reduceIte, decide_true, decide_false, Option.isNone_some, Option.isNone_none, Option.isSome_some, Option.isSome_none, beq_self_eq_true, bne_self_eq_false, Bool.and_true, Bool.true_and, Bool.and_false, Bool.false_and, not_true_eq_false, not_false_eq_true]
        exact J ..
      have J88 : g22_j88 (some ⟨b, 0, none⟩) n N x 2 n t q N (some ⟨c, 0, none⟩) n N = some (.bool ((cutA A dead n N).1 == (cutA (es.map RE.ab) dead n N).1), x2) := by
        unfold g22_j88
        simp only [hx0, e1, obs, asP_pointer, asB_bool, asI_int, asS_string, asSl_slice, asM_map, asTup0, asTup1, asTup2, asTup3, asTup4, asTup5, asTup6, asTup7, asTup8, asTup9, asAgg2, asAgg3, asAgg4, asAgg5, asAgg6, asAgg7, asAgg8, asAgg9, asAgg12, getD0, getD1, getD2, getD3, getD4, getD5, getD6, getD7, getD8, getD9, getD10, getD11, getD12, getD13, getD14, getD15, getD16, getD17, getD18, getD19, Bool.not_true, Bool.not_false, Bool.false_eq_true, Bool.true_eq_false, ↓reduceIte, decide_true, decide_false, Option.isNone_some, Option.isNone_none, Option.isSome_some, Option.isSome_none, beq_self_eq_true, bne_self_eq_false, Bool.and_true, Bool.true_and, Bool.and_false, Bool.false_and, not_true_eq_false, not_false_eq_true]
        exact J ..
      have z0 : ((2 : Int) == 0) = false := rfl
      have z1 : ((2 : Int) == 1) = false := rfl
      have z2 : ((2 : Int) == 2) = true := rfl
      unfold g22
      simp only [hx0, c0, z0, z1, z2, addr_add, Nat.zero_add, d1, d4, e1, g1, g4, J, J83, J88, ite_self, obs, asP_pointer, asB_bool, asI_int, asS_string, asSl_slice, asM_map, asTup0, asTup1, asTup2, asTup3, asTup4, asTup5, asTup6, asTup7, asTup8, asTup9, asAgg2, asAgg3, asAgg4, asAgg5, asAgg6, asAgg7, asAgg8, asAgg9, asAgg12, getD0, getD1, getD2, getD3, getD4, getD5, getD6, getD7, getD8, getD9, getD10, getD11, getD12, getD13, getD14, getD15, getD16, getD17, getD18, getD19, Bool.not_true, Bool.not_false, Bool.false_eq_true, Bool.true_eq_false, ↓reduceIte, decide_true, decide_false, Option.isNone_some, Option.isNone_none, Option.isSome_some, Option.isSome_none, beq_self_eq_true, bne_self_eq_false, Bool.and_true, Bool.true_and, Bool.and_false, Bool.false_and, not_true_eq_false, not_false_eq_true]
  by_cases q3 : kd = 3
  · subst q3
    obtain ⟨x1, e1, hD1, C1⟩ := remove24 hDd n
    have b1 := keepB bd C1
    have g1 : x1.cell? ⟨x.heap.size, 1, none⟩ = some (.string n) := b1.cell 1
    have hE1 := hEd.after C1 ap
    obtain ⟨E', qn, es', x2, e2, hR, hm, C2⟩ := remove31 hE1 hkR n
    refine ⟨(removeA A dead n).1 == (removeA (es.map RE.ab) dead n).1, _, _, _, x2, g22_call ?_, sim_step Fd hDd hEd ap dW eW hD1 C1 (fun _ => ⟨qn, es', E', hR, C2, by rw [hm]; exact (remove_perm hk hperm dead n).2⟩)⟩
    · have J : ∀ u2c0 u2c1 u2c2 u2c3 u2c4 x52, g22_j130 (some ⟨c, 0, none⟩) x u2c0 u2c1 u2c2 u2c3 u2c4 x52 n x1 = some (.bool (x52 == (removeA (es.map RE.ab) dead n).1), x2) := by
        intro u2c0 u2c1 u2c2 u2c3 u2c4 x52
        unfold g22_j130
        simp only [e2, obs, asP_pointer, asB_bool, asI_int, asS_string, asSl_slice, asM_map, asTup0, asTup1, asTup2, asTup3, asTup4, asTup5, asTup6, asTup7, asTup8, asTup9, asAgg2, asAgg3, asAgg4, asAgg5, asAgg6, asAgg7, asAgg8, asAgg9, asAgg12, getD0, getD1, getD2, getD3, getD4, getD5, getD6, getD7, getD8, getD9, getD10, getD11, getD12, getD13, getD14, getD15, getD16, getD17, getD18, getD19, Bool.not_true, Bool.not_false, Bool.false_eq_true, Bool.true_eq_false, ↓reduceIte, decide_true, decide_false, Option.isNone_some, Option.isNone_none, Option.isSome_some, Option.isSome_none, beq_self_eq_true, bne_self_eq_false, Bool.and_true, Bool.true_and, Bool.and_false, Bool.false_and, not_true_eq_false, not_false_eq_true]
      have z0 : ((3 : Int) == 0) = false := rfl
      have z1 : ((3 : Int) == 1) = false := rfl
      have z2 : ((3 : Int) == 2) = false := rfl
      have z3 : ((3 : Int) == 3) = true := rfl
      unfold g22
      simp only [hx0, c0, z0, z1, z2, z3, addr_add, Nat.zero_add, d1, e1, g1, J, ite_self, obs, asP_pointer, asB_bool, asI_int, asS_string, asSl_slice, asM_map, asTup0, asTup1, asTup2, asTup3, asTup4, asTup5, asTup6, asTup7, asTup8, asTup9, asAgg2, asAgg3, asAgg4, asAgg5, asAgg6, asAgg7, asAgg8, asAgg9, asAgg12, getD0, getD1, getD2, getD3, getD4, getD5, getD6, getD7, getD8, getD9, getD10, getD11, getD12, getD13, getD14, getD15, getD16, getD17, getD18, getD19, Bool.not_true, Bool.not_false, Bool.false_eq_true, Bool.true_eq_false, ↓reduceIte, decide_true, decide_false, Option.isNone_some, Option.isNone_none, Option.isSome_some, Option.isSome_none, beq_self_eq_true, bne_self_eq_false, Bool.and_true, Bool.true_and, Bool.and_false, Bool.false_and, not_true_eq_false, not_false_eq_true]
  by_cases q4 : kd = 4
  · subst q4
    obtain ⟨x1, e1, hD1, C1⟩ := rename19 hDd n t
    have b1 := keepB bd C1
    have g1 : x1.cell? ⟨x.heap.size, 1, none⟩ = some (.string n) := b1.cell 1
    have g2 : x1.cell? ⟨x.heap.size, 2, none⟩ = some (.string t) := b1.cell 2
    have hE1 := hEd.after C1 ap
    obtain ⟨E', qn, es', x2, e2, hR, hm, C2⟩ := rename32 hE1 hkR n t
    refine ⟨(renameA A dead n t).1 == (renameA (es.map RE.ab) dead n t).1, _, _, _, x2, g22_call ?_, sim_step Fd hDd hEd ap dW eW hD1 C1 (fun _ => ⟨qn, es', E', hR, C2, ((rename_perm hk hperm dead n t).2).trans hm.symm⟩)⟩
    · have J : ∀ u2c0 u2c1 u2c2 u2c3 u2c4 x187, g22_j180 (some ⟨c, 0, none⟩) x u2c0 u2c1 u2c2 u2c3 u2c4 x187 n t x1 = some (.bool (x187 == (renameA (es.map RE.ab) dead n t).1), x2) := by
        intro u2c0 u2c1 u2c2 u2c3 u2c4 x187
        unfold g22_j180
        simp only [e2, obs, asP_pointer, asB_bool, asI_int, asS_string, asSl_slice, asM_map, asTup0, asTup1, asTup2, asTup3, asTup4, asTup5, asTup6, asTup7, asTup8, asTup9, asAgg2, asAgg3, asAgg4, asAgg5, asAgg6, asAgg7, asAgg8, asAgg9, asAgg12, getD0, getD1, getD2, getD3, getD4, getD5, getD6, getD7, getD8, getD9, getD10, getD11, getD12, getD13, getD14, getD15, getD16, getD17, getD18, getD19, Bool.not_true, Bool.not_false, Bool.false_eq_true, Bool.true_eq_false, ↓reduceIte, decide_true, decide_false, Option.isNone_some, Option.isNone_none, Option.isSome_some, Option.isSome_none, beq_self_eq_true, bne_self_eq_false, Bool.and_true, Bool.true_and, Bool.and_false, Bool.false_and, not_true_eq_false, not_false_eq_true]
      have J83 : ∀ u2c0 u2c1 u2c2 u2c3 u2c4 x94, g22_j164 x (some ⟨c, 0, none⟩) u2c0 u2c1 u2c2 u2c3 u2c4 x94 n x1 = some (.bool (x94 == (renameA (es.map RE.ab) dead n t).1), x2) := by
        intro u2c0 u2c1 u2c2 u2c3 u2c4 x94
        unfold g22_j164
        simp only [addr_add, Nat.zero_add, g2, obs, asP_pointer, asB_bool, asI_int, asS_string, asSl_slice, asM_map, asTup0, asTup1, asTup2, asTup3, asTup4, asTup5, asTup6, asTup7, asTup8, asTup9, asAgg2, asAgg3, asAgg4, asAgg5, asAgg6, asAgg7, asAgg8, asAgg9, asAgg12, getD0, getD1, getD2, getD3, getD4, getD5, getD6, getD7, getD8, getD9, getD10, getD11, getD12, getD13, getD14, getD15, getD16, getD17, getD18, getD19, Bool.not_true, Bool.not_false, Bool.false_eq_true, Bool.true_eq_false, ↓reduceIte, decide_true, decide_false, Option.isNone_some, Option.isNone_none, Option.isSome_some, Option.isSome_none, beq_self_eq_true, bne_self_eq_false, Bool.and_true, Bool.true_and, Bool.and_false, Bool.false_and, not_true_eq_false, not_false_eq_true]
        exact J ..
      have J88 : g22_j169 (some ⟨b, 0, none⟩) n t x 4 n t q N (some ⟨c, 0, none⟩) n t = some (.bool ((renameA A dead n t).1 == (renameA (es.map RE.ab) dead n t).1), x2) := by
        unfold g22_j169
        simp only [hx0, e1, obs, asP_pointer, asB_bool, asI_int, asS_string, asSl_slice, asM_map, asTup0, asTup1, asTup2, asTup3, asTup4, asTup5, asTup6, asTup7, asTup8, asTup9, asAgg2, asAgg3, asAgg4, asAgg5, asAgg6, asAgg7, asAgg8, asAgg9, asAgg12, getD0, getD1, getD2, getD3, getD4, getD5, getD6, getD7, getD8, getD9, getD10, getD11, getD12, getD13, getD14, getD15, getD16, getD17, getD18, getD19, Bool.not_true, Bool.not_false, Bool.false_eq_true, Bool.true_eq_false, ↓reduceIte, decide_true, decide_false, Option.isNone_some, Option.isNone_none, Option.isSome_some, Option.isSome_none, beq_self_eq_true, bne_self_eq_false, Bool.and_true, Bool.true_and, Bool.and_false, Bool.false_and, not_true_eq_false, not_false_eq_true]
        exact J ..
      have z0 : ((4 : Int) == 0) = false := rfl
      have z1 : ((4 : Int) == 1) = false := rfl
      have z2 : ((4 : Int) == 2) = false := rfl
      have z3 : ((4 : Int) == 3) = false := rfl
      have z4 : ((4 : Int) == 4) = true := rfl
      unfold g22
      simp only [hx0, c0, z0, z1, z2, z3, z4, addr_add, Nat.zero_add, d1, d2, e1, g1, g2, J, J83, J88, ite_self, obs, asP_pointer, asB_bool, asI_int, asS_string, asSl_slice, asM_map, asTup0, asTup1, asTup2, asTup3, asTup4, asTup5, asTup6, asTup7, asTup8, asTup9, asAgg2, asAgg3, asAgg4, asAgg5, asAgg6, asAgg7, asAgg8, asAgg9, asAgg12, getD0, getD1, getD2, getD3, getD4, getD5, getD6, getD7, getD8, getD9, getD10, getD11, getD12, getD13, getD14, getD15, getD16, getD17, getD18, getD19, Bool.not_true, Bool.not_false, Bool.false_eq_true, Bool.true_eq_false, ↓reduceIte, decide_true, decide_false, Option.isNone_some, Option.isNone_none, Option.isSome_some, Option.isSome_none, beq_self_eq_true, bne_self_eq_false, Bool.and_true, Bool.true_and, Bool.and_false, Bool.false_and, not_true_eq_false, not_false_eq_true]
  by_cases q5 : kd = 5
  · subst q5
    obtain ⟨x1, e1, hD1, C1⟩ := arm11 hD0 (n := N) hN.2
    have b1 := keepB b0 C1
    have g4 : x1.cell? ⟨x.heap.size, 4, none⟩ = some (.int .i64 N) := b1.cell 4
    have hE1 := hE0.after C1 ap
    obtain ⟨x2, e2, hR, C2⟩ := arm33 hE1 N
    refine ⟨true, _, _, _, x2, g22_call ?_, sim_step F0 hD0 hE0 ap dW eW hD1 C1 (fun _ => ⟨qf, es, E, hR, C2, hperm⟩)⟩
    · have z0 : ((5 : Int) == 0) = false := rfl
      have z1 : ((5 : Int) == 1) = false := rfl
      have z2 : ((5 : Int) == 2) = false := rfl
      have z3 : ((5 : Int) == 3) = false := rfl
      have z4 : ((5 : Int) == 4) = false := rfl
      have z5 : ((5 : Int) == 5) = true := rfl
      unfold g22
      simp only [hx0, c0, z0, z1, z2, z3, z4, z5, addr_add, Nat.zero_add, c4, e1, g4, e2, obs, asP_pointer, asB_bool, asI_int, asS_string, asSl_slice, asM_map, asTup0, asTup1, asTup2, asTup3, asTup4, asTup5, asTup6, asTup7, asTup8, asTup9, asAgg2, asAgg3, asAgg4, asAgg5, asAgg6, asAgg7, asAgg8, asAgg9, asAgg12, getD0, getD1, getD2, getD3, getD4, getD5, getD6, getD7, getD8, getD9, getD10, getD11, getD12, getD13, getD14, getD15, getD16, getD17, getD18, getD19, Bool.not_true, Bool.not_false, Bool.false_eq_true, Bool.true_eq_false, ↓reduceIte, decide_true, decide_false, Option.isNone_some, Option.isNone_none, Option.isSome_some, Option.isSome_none, beq_self_eq_true, bne_self_eq_false, Bool.and_true, Bool.true_and, Bool.and_false, Bool.false_and, not_true_eq_false, not_false_eq_true]
  by_cases q6 : kd = 6
  · subst q6
    have hN2 : -9223372036854775808 ≤ N ∧ N < 9223372036854775808 := by omega
    obtain ⟨x1, e1, hD1, C1⟩ := crash14 hD0 hN2
    have b1 := keepB b0 C1
    have g4 : x1.cell? ⟨x.heap.size, 4, none⟩ = some (.int .i64 N) := b1.cell 4
    have hE1 := hE0.after C1 ap
    have hsyn : ∀ f ∈ es, f.syn ≤ f.data.length := fun f hf => hD.syn f.ab (hperm.mem_iff.mpr (List.mem_map.mpr ⟨f, hf, rfl⟩))
    obtain ⟨E', es', x2, e2, hR, hm, C2⟩ := crash34 hE1 hN2 hsyn
    have hp2 : (crashA N A).Perm (es'.map RE.ab) := by rw [hm]; exact crash_perm hperm N
    obtain ⟨S1, fS1, hS1⟩ := C1.fr
    refine ⟨true, crashA N A, -1, false, x2, g22_call ?_, ?_⟩
    · have z0 : ((6 : Int) == 0) = false := rfl
      have z1 : ((6 : Int) == 1) = false := rfl
      have z2 : ((6 : Int) == 2) = false := rfl
      have z3 : ((6 : Int) == 3) = false := rfl
      have z4 : ((6 : Int) == 4) = false := rfl
      have z5 : ((6 : Int) == 5) = false := rfl
      have z6 : ((6 : Int) == 6) = true := rfl
      unfold g22
      simp only [hx0, c0, z0, z1, z2, z3, z4, z5, z6, addr_add, Nat.zero_add, c4, e1, g4, e2, obs, asP_pointer, asB_bool, asI_int, asS_string, asSl_slice, asM_map, asTup0, asTup1, asTup2, asTup3, asTup4, asTup5, asTup6, asTup7, asTup8, asTup9, asAgg2, asAgg3, asAgg4, asAgg5, asAgg6, asAgg7, asAgg8, asAgg9, asAgg12, getD0, getD1, getD2, getD3, getD4, getD5, getD6, getD7, getD8, getD9, getD10, getD11, getD12, getD13, getD14, getD15, getD16, getD17, getD18, getD19, Bool.not_true, Bool.not_false, Bool.false_eq_true, Bool.true_eq_false, ↓reduceIte, decide_true, decide_false, Option.isNone_some, Option.isNone_none, Option.isSome_some, Option.isSome_none, beq_self_eq_true, bne_self_eq_false, Bool.and_true, Bool.true_and, Bool.and_false, Bool.false_and, not_true_eq_false, not_false_eq_true]
    · exact sim_step F0 hD0 hE0 ap dW eW hD1 C1 (fun _ => ⟨qf, es', E', hR, C2, hp2⟩)
  by_cases q7 : kd = 7
  · subst q7
    obtain ⟨q8, x1, L, e1, o1, f1, n1, hL⟩ := many16' x0 hN
    have b1 := b0.fr f1 (by simp)
    have F1 : Fr [] W x1 := (Fr.mono (Fr.app F0 f1) (by have z0_ := Fr.size F0; have z1_ := Fr.size f1; intro y_ hy_ hl_; grind [blkOf]))
    have f1d := Fr.drew [] x1
    have F1d : Fr [] W x1.drew := (Fr.mono (Fr.app F1 f1d) (by have z0_ := Fr.size F1; have z1_ := Fr.size f1d; intro y_ hy_ hl_; grind [blkOf]))
    have hD1 := (hD0.fr f1 (by simp)).fr f1d (by simp)
    have hE1 := (hE0.fr f1 (by simp)).fr f1d (by simp)
    have b1d := b1.fr f1d (by simp)
    have g1 : x1.drew.cell? ⟨x.heap.size, 1, none⟩ = some (.string n) := b1d.cell 1
    have o1d := o1.fr f1d (by simp)
    have zz := f0.size
    obtain ⟨x2, D2, e2, hD2, C2⟩ := append10 hD1 n o1d.slI (manyL_zs L) o1.le (fun _ y hy hd => by have := n1 y hy; have := hD0.lt y hd; omega) (by rw [manyL_len]; omega)
    obtain ⟨S2, fS2, hS2⟩ := C2.fr
    have b2 := b1d.fr fS2 (fun hm => by have := hD.lt _ (hS2 _ hm); omega)
    have g2 : x2.cell? ⟨x.heap.size, 1, none⟩ = some (.string n) := b2.cell 1
    have hE2 := hE1.after C2 ap
    have hp2 : Sl8 x2 q8 (manyL L) := chg_sl C2 o1d.slI (fun _ y hy hd => by have := n1 y hy; have := hD0.lt y hd; omega)
    obtain ⟨E', qn, es', x3, e3, hR, hm, C3⟩ := append28 hE2 hkR hD.fuse n hp2 (manyL_zs L) (fun _ y hy he => by have := n1 y hy; have := hE0.lt y he; omega) (by rw [manyL_len]; omega)
    obtain ⟨pa, pb, pc⟩ := app_perm hk hperm fuse dead n (manyL L)
    rw [← pc] at hR
    refine ⟨(appA A fuse dead n (manyL L)).1 == (appA (es.map RE.ab) fuse dead n (manyL L)).1, _, _, _, x3, g22_call ?_, sim_step F1d hD1 hE1 ap dW eW hD2 C2 (fun _ => ⟨qn, es', E', hR, C3, pb.trans hm.symm⟩)⟩
    · have J : ∀ r210 x232, g22_j229 (some ⟨c, 0, none⟩) q8 r210 x232 n x2 = some (.bool (x232 == (appA (es.map RE.ab) fuse dead n (manyL L)).1), x3) := by
        intro r210 x232
        unfold g22_j229
        simp only [e3, obs, asP_pointer, asB_bool, asI_int, asS_string, asSl_slice, asM_map, asTup0, asTup1, asTup2, asTup3, asTup4, asTup5, asTup6, asTup7, asTup8, asTup9, asAgg2, asAgg3, asAgg4, asAgg5, asAgg6, asAgg7, asAgg8, asAgg9, asAgg12, getD0, getD1, getD2, getD3, getD4, getD5, getD6, getD7, getD8, getD9, getD10, getD11, getD12, getD13, getD14, getD15, getD16, getD17, getD18, getD19, Bool.not_true, Bool.not_false, Bool.false_eq_true, Bool.true_eq_false, ↓reduceIte, decide_true, decide_false, Option.isNone_some, Option.isNone_none, Option.isSome_some, Option.isSome_none, beq_self_eq_true, bne_self_eq_false, Bool.and_true, Bool.true_and, Bool.and_false, Bool.false_and, not_true_eq_false, not_false_eq_true]
      have z0 : ((7 : Int) == 0) = false := rfl
      have z1 : ((7 : Int) == 1) = false := rfl
      have z2 : ((7 : Int) == 2) = false := rfl
      have z3 : ((7 : Int) == 3) = false := rfl
      have z4 : ((7 : Int) == 4) = false := rfl
      have z5 : ((7 : Int) == 5) = false := rfl
      have z6 : ((7 : Int) == 6) = false := rfl
      have z7 : ((7 : Int) == 7) = true := rfl
      unfold g22
      simp only [hx0, c0, z0, z1, z2, z3, z4, z5, z6, z7, addr_add, Nat.zero_add, c4, e1, g1, e2, g2, J, ite_self, obs, asP_pointer, asB_bool, asI_int, asS_string, asSl_slice, asM_map, asTup0, asTup1, asTup2, asTup3, asTup4, asTup5, asTup6, asTup7, asTup8, asTup9, asAgg2, asAgg3, asAgg4, asAgg5, asAgg6, asAgg7, asAgg8, asAgg9, asAgg12, getD0, getD1, getD2, getD3, getD4, getD5, getD6, getD7, getD8, getD9, getD10, getD11, getD12, getD13, getD14, getD15, getD16, getD17, getD18, getD19, Bool.not_true, Bool.not_false, Bool.false_eq_true, Bool.true_eq_false, ↓reduceIte, decide_true, decide_false, Option.isNone_some, Option.isNone_none, Option.isSome_some, Option.isSome_none, beq_self_eq_true, bne_self_eq_false, Bool.and_true, Bool.true_and, Bool.and_false, Bool.false_and, not_true_eq_false, not_false_eq_true]
  by_cases q0 : kd = 0
  · subst q0
    have hpx0 : Sl8 x0 q p := hp.fr3 F0 (by simp)
    have hpl0 := hp.1
    have hml : maxLen = 9223372036854775807 := by decide
    obtain ⟨q6, x1, e1, o1, f1, n1, _⟩ := app_empty t28 hpx0.slC (by intro y hy; obtain ⟨z, _, rfl⟩ := List.mem_map.mp hy; rfl) (by omega) (by omega) 28 #[false, false]
    have fa : Fr [] x0 (x0.alloc (.cells #[] 5)) := Fr.alloc _
    have ba := b0.fr fa (by simp)
    have ga : (x0.alloc (.cells #[] 5)).cell? ⟨x.heap.size, 3, none⟩ = some (.slice q.1 q.2.1 q.2.2) := ba.cell 3
    have F1 : Fr [] W x1 := (Fr.mono (Fr.app F0 f1) (by have z0_ := Fr.size F0; have z1_ := Fr.size f1; intro y_ hy_ hl_; grind [blkOf]))
    have b1 := b0.fr f1 (by simp)
    have g1 : x1.cell? ⟨x.heap.size, 1, none⟩ = some (.string n) := b1.cell 1
    have hD1 := hD0.fr f1 (by simp)
    have hE1 := hE0.fr f1 (by simp)
    have z0 := f0.size
    have z1 := f1.size
    have q6D : ∀ y ∈ blkOf q6, ¬ D y := fun y hy hd => by have := n1 y hy; have := hD.lt y hd; omega
    have q6E : ∀ y ∈ blkOf q6, ¬ E y := fun y hy hd => by have := n1 y hy; have := hE.lt y hd; omega
    obtain ⟨x2, D2, e2, hD2, C2⟩ := append10 hD1 n o1.slI hz o1.le (fun _ => q6D) (by omega)
    obtain ⟨S2, fS2, hS2⟩ := C2.fr
    have b2 := b1.fr fS2 (fun hm => by have := hD.lt _ (hS2 _ hm); omega)
    have g2 : x2.cell? ⟨x.heap.size, 3, none⟩ = some (.slice q.1 q.2.1 q.2.2) := b2.cell 3
    have F2 : Fr [] W x2 := (F1.app fS2).mono (by intro y hy hlt; simp at hy; have := dW y (hS2 y hy); omega)
    have o2 := o1.fr fS2 (fun y hy hm => q6D y hy (hS2 y hm))
    have hE2 := hE1.after C2 ap
    obtain ⟨x3, e3, f3⟩ := same30 o2.slI (hp.fr3 F2 (by simp)) (by omega)
    obtain ⟨t16, x4, e4, f4⟩ := ones16 (o2.fr f3 (by simp)) (by omega) (some ⟨c, 0, none⟩) x (appA A fuse dead n p).1 true
    have q6W : ∀ y ∈ blkOf q6, W.heap.size ≤ y := fun y hy => by have := n1 y hy; have := F0.size; omega
    have q6D2 : ∀ y ∈ blkOf q6, ¬ D2 y := fun y hy hd => by
      rcases C2.new y hd with hh | hh
      · exact q6D y hy hh
      · have := o1.lt y hy; omega
    have F34 : Fr (blkOf q6) x2 x4 := by have := f3.app f4; simpa using this
    have F4 : Fr [] W x4 := (F2.app F34).mono (by intro y hy hlt; simp at hy; have := q6W y hy; omega)
    have hD4 := hD2.fr F34 (fun y hy _ hd => q6D2 y hy hd)
    have hE4 := hE2.fr F34 (fun y hy _ hd => q6E y hy hd)
    have b4 := b2.fr F34 (fun hm => by have := n1 _ hm; have := b0.lt; omega)
    have g4 : x4.cell? ⟨x.heap.size, 1, none⟩ = some (.string n) := b4.cell 1
    have g43 : x4.cell? ⟨x.heap.size, 3, none⟩ = some (.slice q.1 q.2.1 q.2.2) := b4.cell 3
    have hqW : 0 < p.length → ∀ y ∈ blkOf q, y < W.heap.size := fun h0 y hy => hp.slC.lt (by rw [List.length_map]; omega) y hy
    obtain ⟨E', qn, es', x5, e5, hR, hm, C5⟩ := append28 hE4 hkR hD.fuse n (hp.fr3 F4 (by simp)) hz (fun h0 y hy he => by have := hqW h0 y hy; have := eW y he; omega) (by omega)
    obtain ⟨pa, pb, pc⟩ := app_perm hk hperm fuse dead n p
    rw [← pc] at hR
    refine ⟨(appA A fuse dead n p).1 == (appA (es.map RE.ab) fuse dead n p).1, _, _, _, x5, g22_call ?_, sim_step F4 hD4 hE4 (fun y hd he => by
      rcases C2.new y hd with hh | hh
      · exact ap y hh he
      · have := hE.lt y he; omega) (fun y hd => by
      rcases C2.new y hd with hh | hh
      · exact dW y hh
      · have := F1.size; omega) eW hD4 (Chg.refl _ _) (fun _ => ⟨qn, es', E', hR, C5, pb.trans hm.symm⟩)⟩
    · have k0 : ((0 : Int) == 0) = true := rfl
      unfold g22
      simp only [hx0, c0, k0, addr_add, Nat.zero_add, ga, e1, g1, e2, g2, e3, obs, asP_pointer, asB_bool, asI_int, asS_string, asSl_slice, asM_map, asTup0, asTup1, asTup2, asTup3, asTup4, asTup5, asTup6, asTup7, asTup8, asTup9, asAgg2, asAgg3, asAgg4, asAgg5, asAgg6, asAgg7, asAgg8, asAgg9, asAgg12, getD0, getD1, getD2, getD3, getD4, getD5, getD6, getD7, getD8, getD9, getD10, getD11, getD12, getD13, getD14, getD15, getD16, getD17, getD18, getD19, Bool.not_true, Bool.not_false, Bool.false_eq_true, Bool.true_eq_false, ↓reduceIte, decide_true, decide_false, Option.isNone_some, Option.isNone_none, Option.isSome_some, Option.isSome_none, beq_self_eq_true, bne_self_eq_false, Bool.and_true, Bool.true_and, Bool.and_false, Bool.false_and, not_true_eq_false, not_false_eq_true]
      rw [e4]
      unfold g22_l16_x1
      simp only [addr_add, Nat.zero_add, g4, g43, e5, obs, asP_pointer, asB_bool, asI_int, asS_string, asSl_slice, asM_map, asTup0, asTup1, asTup2, asTup3, asTup4, asTup5, asTup6, asTup7, asTup8, asTup9, asAgg2, asAgg3, asAgg4, asAgg5, asAgg6, asAgg7, asAgg8, asAgg9, asAgg12, getD0, getD1, getD2, getD3, getD4, getD5, getD6, getD7, getD8, getD9, getD10, getD11, getD12, getD13, getD14, getD15, getD16, getD17, getD18, getD19, Bool.not_true, Bool.not_false, Bool.false_eq_true, Bool.true_eq_false, ↓reduceIte, decide_true, decide_false, Option.isNone_some, Option.isNone_none, Option.isSome_some, Option.isSome_none, beq_self_eq_true, bne_self_eq_false, Bool.and_true, Bool.true_and, Bool.and_false, Bool.false_and, not_true_eq_false, not_false_eq_true]
  · have z0 : (kd == 0) = false := by simp [q0]
    have z1 : (kd == 1) = false := by simp [q1]
    have z2 : (kd == 2) = false := by simp [q2]
    have z3 : (kd == 3) = false := by simp [q3]
    have z4 : (kd == 4) = false := by simp [q4]
    have z5 : (kd == 5) = false := by simp [q5]
    have z6 : (kd == 6) = false := by simp [q6]
    have z7 : (kd == 7) = false := by simp [q7]
    refine ⟨true, A, fuse, dead, x0, g22_call ?_, hxs.aside f0⟩
    unfold g22
    simp only [hx0, c0, z0, z1, z2, z3, z4, z5, z6, z7, obs, asP_pointer, asB_bool, asI_int, asS_string, asSl_slice, asM_map, asTup0, asTup1, asTup2, asTup3, asTup4, asTup5, asTup6, asTup7, asTup8, asTup9, asAgg2, asAgg3, asAgg4, asAgg5, asAgg6, asAgg7, asAgg8, asAgg9, asAgg12, getD0, getD1, getD2, getD3, getD4, getD5, getD6, getD7, getD8, getD9, getD10, getD11, getD12, getD13, getD14, getD15, getD16, getD17, getD18, getD19, Bool.not_true, Bool.not_false, Bool.false_eq_true, Bool.true_eq_false, ↓reduceIte, decide_true, decide_false, Option.isNone_some, Option.isNone_none, Option.isSome_some, Option.isSome_none, beq_self_eq_true, bne_self_eq_false, Bool.and_true, Bool.true_and, Bool.and_false, Bool.false_and, not_true_eq_false, not_false_eq_true]
end
end Go.Proofs.Ytkmidlhnlnolnaa
