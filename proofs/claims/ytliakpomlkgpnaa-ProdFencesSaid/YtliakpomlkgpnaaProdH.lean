/-
  ProdH: lemmas on what Go functions of this seat come to (for whatever arguments, as each says). No condition but those that stand in each lemma.
-/
import Derived.Test.YtliakpomlkgpnaaProdG
namespace Go.Proofs.Ytliakpomlkgpnaa
open Go Go.Ev
set_option maxRecDepth 100000
set_option linter.unusedVariables false
set_option linter.unusedSimpArgs false

/-- what Check answers -/
def chkA (A : List (Int × PV)) (b : BV) : Int × Bool × Int :=
  if chkB b ≠ 0 then (0, false, chkB b)
  else if b.pid = 0 then (0, false, 0)
  else match kget A b.pid with
  | none => if b.con then (0, false, 0) else if b.seq ≠ 0 then (0, false, 11) else (0, false, 0)
  | some v => if b.pe < v.1 then (0, false, 10) else if b.con then (0, false, 0) else if b.pe > v.1 then (if b.seq ≠ 0 then (0, false, 11) else (0, false, 0))
    else match v.2.2.1.find? (isB b) with
    | some s => (s.2.2, true, 0)
    | none => if b.seq ≠ v.2.1 then (0, false, 11) else (0, false, 0)

section
variable {w : World} {D : Nat → Prop} {tb : Nat} {A : List (Int × PV)} {abl : List Sn} {b : BV}

theorem check_loop {w0 x : World} {p19 : Option Addr} {q : Option Addr × Nat × Nat} {l : List Sn} (hb : Blk x w0.heap.size b.cs 30) (hv : b.vs.length = b.q.2.1) (ho : Own x 59 3 q (seenCs l)) (hn : l.length < 9223372036854775807) :
    ∃ e t x', loopS (g11_l42_b q w0 p19) (0, false, 0, 0) x = some (e, t, x') ∧ Fr [] x x' ∧
      (match l.find? (isB b) with | some s => e = .ret ∧ t.1 = s.2.2 ∧ t.2.1 = true ∧ t.2.2.1 = 0 | none => e = .exit 1) := by
  have hl := ho.len
  rw [seenCs_len] at hl
  obtain ⟨e, t, x', g1, g2, g3⟩ := loopS_rule (b := g11_l42_b q w0 p19) (I := fun k s y => s = (0, false, 0, (k : Int)) ∧ Fr [] x y ∧ (l.take k).find? (isB b) = none)
    (Q := fun e t y => Fr [] x y ∧ (match l.find? (isB b) with | some s => e = .ret ∧ t.1 = s.2.2 ∧ t.2.1 = true ∧ t.2.2.1 = 0 | none => e = .exit 1)) (n := l.length)
    (fun k s y hk ⟨hs, hf, ht⟩ => by
      subst hs
      obtain ⟨y', f, e⟩ := check_round (w0 := w0) (p19 := p19) rfl (hb.fr hf (by simp)) hv (ho.fr hf (by simp)) hn hk
      have F : Fr [] x y' := (Fr.mono (Fr.app hf f) (by have z0_ := Fr.size hf; have z1_ := Fr.size f; intro y_ hy_ hl_; grind [blkOf]))
      cases h : isB b l[k] with
      | true =>
        rw [h, if_pos rfl] at e
        refine ⟨.ret, _, y', e, .inr ⟨by simp, F, ?_⟩⟩
        have : l.find? (isB b) = some l[k] := by
          have hl : l.take k ++ l[k] :: l.drop (k + 1) = l := by simp
          have e2 : (l.take k ++ l[k] :: l.drop (k + 1)).find? (isB b) = some l[k] := by
            rw [List.find?_append, ht, Option.none_or, List.find?_cons, h]
          rw [hl] at e2
          exact e2
        rw [this]
        exact ⟨rfl, rfl, rfl, rfl⟩
      | false =>
        rw [h, if_neg (by decide)] at e
        refine ⟨.normal, _, y', e, .inl ⟨rfl, rfl, F, ?_⟩⟩
        rw [List.take_succ_eq_append_getElem hk, List.find?_append, ht]
        simp [h])
    (fun s y ⟨hs, hf, ht⟩ => by
      subst hs
      have hc : ¬ ((l.length : Nat) : Int) < (q.2.1 : Int) := by omega
      refine ⟨.exit 1, (0, false, 0, ((l.length : Nat) : Int)), y, ?_, by simp, hf, ?_⟩
      · unfold g11_l42_b
        simp only [hc, obs, asP_pointer, asB_bool, asI_int, asS_string, asSl_slice, asM_map, asTup0, asTup1, asTup2, asTup3, asTup4, asTup5, asTup6, asTup7, asTup8, asTup9, getD0, getD1, getD2, getD3, getD4, getD5, getD6, getD7, getD8, getD9, getD10, getD11, Bool.not_true, Bool.not_false, Bool.false_eq_true, Bool.true_eq_false, ↓reduceIte, decide_true, decide_false, Option.isNone_some, Option.isNone_none, Option.isSome_some, Option.isSome_none, beq_self_eq_true, bne_self_eq_false, Bool.and_true, Bool.true_and, Bool.and_false, Bool.false_and, not_true_eq_false, not_false_eq_true]
      · rw [List.take_length] at ht
        rw [ht])
    (Nat.zero_le _) (k := 0) (s := (0, false, 0, 0)) (w := x) ⟨rfl, Fr.refl _ _, rfl⟩
  exact ⟨e, t, x', g1, g2, g3⟩

theorem check11 (h : Tb w D tb A abl) (hb : BOk w b) (hlast : ∀ v, kget A b.pid = some v → v.2.2.1.length < 9223372036854775807) :
    ∃ w', callF Try.prog 11 #[.pointer (some ⟨tb, 0, none⟩), b.arg] w = some (.tuple #[.int .i64 (chkA A b).1, .bool (chkA A b).2.1, .int .i64 (chkA A b).2.2], w') ∧ Fr [] w w' := by
  obtain ⟨s1, f1⟩ := spill w b
  obtain ⟨v, hv1⟩ : ∃ v, w.alloc (.cells #[.int .i64 b.base, .int .i64 b.ep, .int .u64 b.pid, .int .i64 b.pe, .int .i64 b.seq, .bool b.txn, .bool b.con, .bool b.com, .slice b.q.1 b.q.2.1 b.q.2.2] 30) = v := ⟨_, rfl⟩
  rw [hv1] at s1 f1
  have hbv := hb.fr f1
  obtain ⟨w1, e1, f2⟩ := check19 hbv
  have e1' : callF Try.prog 19 #[.agg #[.int .i64 b.base, .int .i64 b.ep, .int .u64 b.pid, .int .i64 b.pe, .int .i64 b.seq, .bool b.txn, .bool b.con, .bool b.com, .slice b.q.1 b.q.2.1 b.q.2.2]] v = some (.int .i64 (chkB b), w1) := e1
  have l9 : ldN v ⟨w.heap.size, 0, none⟩ 0 9 = some [.int .i64 b.base, .int .i64 b.ep, .int .u64 b.pid, .int .i64 b.pe, .int .i64 b.seq, .bool b.txn, .bool b.con, .bool b.com, .slice b.q.1 b.q.2.1 b.q.2.2] := blk_ldN s1 (n := 9) (by simp [BV.cs])
  have G0 : ∀ a b c d e f g h i : Value, [a, b, c, d, e, f, g, h, i].getD 0 undef = a := fun _ _ _ _ _ _ _ _ _ => rfl
  have G1 : ∀ a b c d e f g h i : Value, [a, b, c, d, e, f, g, h, i].getD 1 undef = b := fun _ _ _ _ _ _ _ _ _ => rfl
  have G2 : ∀ a b c d e f g h i : Value, [a, b, c, d, e, f, g, h, i].getD 2 undef = c := fun _ _ _ _ _ _ _ _ _ => rfl
  have G3 : ∀ a b c d e f g h i : Value, [a, b, c, d, e, f, g, h, i].getD 3 undef = d := fun _ _ _ _ _ _ _ _ _ => rfl
  have G4 : ∀ a b c d e f g h i : Value, [a, b, c, d, e, f, g, h, i].getD 4 undef = e := fun _ _ _ _ _ _ _ _ _ => rfl
  have G5 : ∀ a b c d e f g h i : Value, [a, b, c, d, e, f, g, h, i].getD 5 undef = f := fun _ _ _ _ _ _ _ _ _ => rfl
  have G6 : ∀ a b c d e f g h i : Value, [a, b, c, d, e, f, g, h, i].getD 6 undef = g := fun _ _ _ _ _ _ _ _ _ => rfl
  have G7 : ∀ a b c d e f g h i : Value, [a, b, c, d, e, f, g, h, i].getD 7 undef = h := fun _ _ _ _ _ _ _ _ _ => rfl
  have G8 : ∀ a b c d e f g h i : Value, [a, b, c, d, e, f, g, h, i].getD 8 undef = i := fun _ _ _ _ _ _ _ _ _ => rfl
  obtain ⟨r, q, fs, h1, h2, h3, h4, h5, h6, h7⟩ := h.ex
  subst h1
  have F1 : Fr [] w w1 := (Fr.mono (Fr.app f1 f2) (by have z0_ := Fr.size f1; have z1_ := Fr.size f2; intro y_ hy_ hl_; grind [blkOf]))
  have fd := Fr.drew [] w1
  have fd2 := Fr.drew [] w1.drew
  have fd3 := Fr.drew [] w1.drew.drew
  have F3 : Fr [] w w1.drew.drew.drew := (Fr.mono (Fr.app (Fr.app (Fr.app F1 fd) fd2) fd3) (by have z0_ := Fr.size F1; have z1_ := Fr.size fd; have z2_ := Fr.size fd2; have z3_ := Fr.size fd3; intro y_ hy_ hl_; grind [blkOf]))
  have bb := s1.fr f2 (by simp)
  obtain ⟨c0, c1, c2, c3, c4, c5, c6, c7, c8⟩ := cs9 (bb.fr fd (by simp))
  obtain ⟨_, _, _, d3, d4, _, d6, _, _⟩ := cs9 ((bb.fr fd (by simp)).fr fd2 (by simp))
  obtain ⟨_, _, _, k3', k4, _, _, _, _⟩ := cs9 (((bb.fr fd (by simp)).fr fd2 (by simp)).fr fd3 (by simp))
  have t0 : w1.drew.cell? ⟨tb, 0, none⟩ = some (.map (some r)) := ((h2.fr F1 (by simp)).fr fd (by simp)).cell 0
  have lk := look_pid ((h4.fr F1 (by simp)).fr fd (by simp)) b.pid
  have start : ∀ w', (∀ R : Option (Value × World), R = some (.tuple #[.int .i64 (chkA (fs.map PE.ab) b).1, .bool (chkA (fs.map PE.ab) b).2.1, .int .i64 (chkA (fs.map PE.ab) b).2.2], w') → R = some (.tuple #[.int .i64 (chkA (fs.map PE.ab) b).1, .bool (chkA (fs.map PE.ab) b).2.1, .int .i64 (chkA (fs.map PE.ab) b).2.2], w')) := fun _ _ h => h
  have call := fun r => g11_call (u0 := some ⟨tb, 0, none⟩) (u1c0 := b.base) (u1c1 := b.ep) (u1c2 := b.pid) (u1c3 := b.pe) (u1c4 := b.seq) (u1c5 := b.txn) (u1c6 := b.con) (u1c7 := b.com) (u1c8 := b.q) (w0 := w) (r := r)
  have nt : ((Option.some (⟨tb, 0, none⟩ : Addr)).isNone = true) = False := by simp
  by_cases hk : chkB b = 0
  · have hk0 : (chkB b != 0) = false := by simp [hk]
    by_cases hp : b.pid = 0
    · have hp0 : (b.pid == 0) = true := by simp [hp]
      have ea : chkA (fs.map PE.ab) b = (0, false, 0) := by unfold chkA; rw [if_neg (by simp [hk]), if_pos hp]
      rw [ea]
      refine ⟨w1.drew, call _ ?_, (Fr.mono (Fr.app F1 fd) (by have z0_ := Fr.size F1; have z1_ := Fr.size fd; intro y_ hy_ hl_; grind [blkOf]))⟩
      unfold g11
      simp only [hv1, nt, if_false]
      rw [l9, Option.bind_some]
      simp only [G0, G1, G2, G3, G4, G5, G6, G7, G8, asI_int, asB_bool, asSl_slice, Option.bind_some]
      rw [e1', Option.bind_some]
      obtain ⟨p, hpp⟩ : ∃ p, (kget (keysOf fs) b.pid).getD (.pointer none) = .pointer p := by
        rcases keysOf_get fs b.pid with ⟨i, hi, k1, k2, _⟩ | ⟨k1, _⟩
        · exact ⟨_, by rw [k2]; rfl⟩
        · exact ⟨none, by rw [k1]; rfl⟩
      simp only [hk0, t0, addr_add, Nat.zero_add, c2, lk, hpp, hp0, obs, asP_pointer, asB_bool, asI_int, asS_string, asSl_slice, asM_map, asTup0, asTup1, asTup2, asTup3, asTup4, asTup5, asTup6, asTup7, asTup8, asTup9, getD0, getD1, getD2, getD3, getD4, getD5, getD6, getD7, getD8, getD9, getD10, getD11, Bool.not_true, Bool.not_false, Bool.false_eq_true, Bool.true_eq_false, ↓reduceIte, decide_true, decide_false, Option.isNone_some, Option.isNone_none, Option.isSome_some, Option.isSome_none, beq_self_eq_true, bne_self_eq_false, Bool.and_true, Bool.true_and, Bool.and_false, Bool.false_and, not_true_eq_false, not_false_eq_true]
    · have hp0 : (b.pid == 0) = false := by simp [hp]
      rcases keysOf_get fs b.pid with ⟨i, hi, k1, k2, k3, _⟩ | ⟨k1, k2, _, _⟩
      · rw [k2] at lk
        have hD : ∀ x : Value, (some x).getD (.pointer none) = x := fun _ => rfl
        have hpe := (((h5.ok i hi).blk.fr F1 (by simp)).fr fd (by simp)).fr fd2 (by simp)
        have q0 : w1.drew.drew.cell? ⟨fs[i].pb, 0, none⟩ = some (.int .i64 fs[i].epoch) := hpe.cell 0
        have hpe3 := hpe.fr fd3 (by simp)
        have r0 : w1.drew.drew.drew.cell? ⟨fs[i].pb, 0, none⟩ = some (.int .i64 fs[i].epoch) := hpe3.cell 0
        have r2 : w1.drew.drew.drew.cell? ⟨fs[i].pb, 2, none⟩ = some (.slice fs[i].q.1 fs[i].q.2.1 fs[i].q.2.2) := hpe3.cell 2
        have hown := ((((h5.ok i hi).own.fr F1 (by simp)).fr fd (by simp)).fr fd2 (by simp)).fr fd3 (by simp)
        have hl := hlast _ k3
        by_cases x1 : b.pe < fs[i].epoch
        · -- old
          have ea : chkA (fs.map PE.ab) b = (0, false, 10) := by unfold chkA; simp [hk, hp, k3, PE.pv, x1]
          rw [ea]
          refine ⟨w1.drew.drew, call _ ?_, (Fr.mono (Fr.app (Fr.app F1 fd) fd2) (by have z0_ := Fr.size F1; have z1_ := Fr.size fd; have z2_ := Fr.size fd2; intro y_ hy_ hl_; grind [blkOf]))⟩
          unfold g11
          simp only [hv1, nt, if_false]
          rw [l9, Option.bind_some]
          simp only [G0, G1, G2, G3, G4, G5, G6, G7, G8, asI_int, asB_bool, asSl_slice, Option.bind_some]
          rw [e1', Option.bind_some]
          simp only [hk0, t0, addr_add, Nat.zero_add, c2, lk, hp0, hD, d3, q0, x1, obs, asP_pointer, asB_bool, asI_int, asS_string, asSl_slice, asM_map, asTup0, asTup1, asTup2, asTup3, asTup4, asTup5, asTup6, asTup7, asTup8, asTup9, getD0, getD1, getD2, getD3, getD4, getD5, getD6, getD7, getD8, getD9, getD10, getD11, Bool.not_true, Bool.not_false, Bool.false_eq_true, Bool.true_eq_false, ↓reduceIte, decide_true, decide_false, Option.isNone_some, Option.isNone_none, Option.isSome_some, Option.isSome_none, beq_self_eq_true, bne_self_eq_false, Bool.and_true, Bool.true_and, Bool.and_false, Bool.false_and, not_true_eq_false, not_false_eq_true]
        cases hcon : b.con with
        | true =>
          rw [hcon] at d6
          have ea : chkA (fs.map PE.ab) b = (0, false, 0) := by unfold chkA; simp [hk, hp, k3, PE.pv, x1, hcon]
          rw [ea]
          refine ⟨w1.drew.drew, call _ ?_, (Fr.mono (Fr.app (Fr.app F1 fd) fd2) (by have z0_ := Fr.size F1; have z1_ := Fr.size fd; have z2_ := Fr.size fd2; intro y_ hy_ hl_; grind [blkOf]))⟩
          unfold g11
          simp only [hv1, nt, if_false]
          rw [l9, Option.bind_some]
          simp only [G0, G1, G2, G3, G4, G5, G6, G7, G8, asI_int, asB_bool, asSl_slice, Option.bind_some]
          rw [e1', Option.bind_some]
          simp only [hk0, t0, addr_add, Nat.zero_add, c2, lk, hp0, hD, d3, q0, x1, d6, obs, asP_pointer, asB_bool, asI_int, asS_string, asSl_slice, asM_map, asTup0, asTup1, asTup2, asTup3, asTup4, asTup5, asTup6, asTup7, asTup8, asTup9, getD0, getD1, getD2, getD3, getD4, getD5, getD6, getD7, getD8, getD9, getD10, getD11, Bool.not_true, Bool.not_false, Bool.false_eq_true, Bool.true_eq_false, ↓reduceIte, decide_true, decide_false, Option.isNone_some, Option.isNone_none, Option.isSome_some, Option.isSome_none, beq_self_eq_true, bne_self_eq_false, Bool.and_true, Bool.true_and, Bool.and_false, Bool.false_and, not_true_eq_false, not_false_eq_true]
        | false =>
        rw [hcon] at d6
        by_cases x2 : b.pe > fs[i].epoch
        · by_cases x3 : b.seq = 0
          · have x3' : (b.seq != 0) = false := by simp [x3]
            have ea : chkA (fs.map PE.ab) b = (0, false, 0) := by unfold chkA; simp [hk, hp, k3, PE.pv, x1, hcon, x2, x3]
            rw [ea]
            refine ⟨w1.drew.drew.drew, call _ ?_, F3⟩
            unfold g11
            simp only [hv1, nt, if_false]
            rw [l9, Option.bind_some]
            simp only [G0, G1, G2, G3, G4, G5, G6, G7, G8, asI_int, asB_bool, asSl_slice, Option.bind_some]
            rw [e1', Option.bind_some]
            simp only [hk0, t0, addr_add, Nat.zero_add, c2, lk, hp0, hD, d3, q0, x1, d6, k3', r0, x2, k4, x3', obs, asP_pointer, asB_bool, asI_int, asS_string, asSl_slice, asM_map, asTup0, asTup1, asTup2, asTup3, asTup4, asTup5, asTup6, asTup7, asTup8, asTup9, getD0, getD1, getD2, getD3, getD4, getD5, getD6, getD7, getD8, getD9, getD10, getD11, Bool.not_true, Bool.not_false, Bool.false_eq_true, Bool.true_eq_false, ↓reduceIte, decide_true, decide_false, Option.isNone_some, Option.isNone_none, Option.isSome_some, Option.isSome_none, beq_self_eq_true, bne_self_eq_false, Bool.and_true, Bool.true_and, Bool.and_false, Bool.false_and, not_true_eq_false, not_false_eq_true]
          · have x3' : (b.seq != 0) = true := by simpa using x3
            have ea : chkA (fs.map PE.ab) b = (0, false, 11) := by unfold chkA; simp [hk, hp, k3, PE.pv, x1, hcon, x2, x3]
            rw [ea]
            refine ⟨w1.drew.drew.drew, call _ ?_, F3⟩
            unfold g11
            simp only [hv1, nt, if_false]
            rw [l9, Option.bind_some]
            simp only [G0, G1, G2, G3, G4, G5, G6, G7, G8, asI_int, asB_bool, asSl_slice, Option.bind_some]
            rw [e1', Option.bind_some]
            simp only [hk0, t0, addr_add, Nat.zero_add, c2, lk, hp0, hD, d3, q0, x1, d6, k3', r0, x2, k4, x3', obs, asP_pointer, asB_bool, asI_int, asS_string, asSl_slice, asM_map, asTup0, asTup1, asTup2, asTup3, asTup4, asTup5, asTup6, asTup7, asTup8, asTup9, getD0, getD1, getD2, getD3, getD4, getD5, getD6, getD7, getD8, getD9, getD10, getD11, Bool.not_true, Bool.not_false, Bool.false_eq_true, Bool.true_eq_false, ↓reduceIte, decide_true, decide_false, Option.isNone_some, Option.isNone_none, Option.isSome_some, Option.isSome_none, beq_self_eq_true, bne_self_eq_false, Bool.and_true, Bool.true_and, Bool.and_false, Bool.false_and, not_true_eq_false, not_false_eq_true]
        · obtain ⟨e, t, x', g1, g2, g3⟩ := check_loop (w0 := w) (p19 := some ⟨fs[i].pb, 0, none⟩) (((bb.fr fd (by simp)).fr fd2 (by simp)).fr fd3 (by simp)) hb.len hown hl
          have fdx := Fr.drew [] x'
          have b5 := ((((bb.fr fd (by simp)).fr fd2 (by simp)).fr fd3 (by simp)).fr g2 (by simp)).fr fdx (by simp)
          have z4 := (cs9 b5).c4
          have z1 : x'.drew.cell? ⟨fs[i].pb, 1, none⟩ = some (.int .i64 fs[i].next) := ((hpe3.fr g2 (by simp)).fr fdx (by simp)).cell 1
          cases hf : fs[i].last.find? (isB b) with
          | some s =>
            rw [hf] at g3
            obtain ⟨rfl, t1, t2, t3⟩ := g3
            have ea : chkA (fs.map PE.ab) b = (s.2.2, true, 0) := by unfold chkA; simp [hk, hp, k3, PE.pv, x1, hcon, x2, hf]
            rw [ea]
            refine ⟨x', call _ ?_, (Fr.mono (Fr.app F3 g2) (by have z0_ := Fr.size F3; have z1_ := Fr.size g2; intro y_ hy_ hl_; grind [blkOf]))⟩
            unfold g11
            simp only [hv1, nt, if_false]
            rw [l9, Option.bind_some]
            simp only [G0, G1, G2, G3, G4, G5, G6, G7, G8, asI_int, asB_bool, asSl_slice, Option.bind_some]
            rw [e1', Option.bind_some]
            simp only [hk0, t0, addr_add, Nat.zero_add, c2, lk, hp0, hD, d3, q0, x1, d6, k3', r0, x2, r2, g11_l42_ret_of g1, g11_l42_ret, t1, t2, t3, obs, asP_pointer, asB_bool, asI_int, asS_string, asSl_slice, asM_map, asTup0, asTup1, asTup2, asTup3, asTup4, asTup5, asTup6, asTup7, asTup8, asTup9, getD0, getD1, getD2, getD3, getD4, getD5, getD6, getD7, getD8, getD9, getD10, getD11, Bool.not_true, Bool.not_false, Bool.false_eq_true, Bool.true_eq_false, ↓reduceIte, decide_true, decide_false, Option.isNone_some, Option.isNone_none, Option.isSome_some, Option.isSome_none, beq_self_eq_true, bne_self_eq_false, Bool.and_true, Bool.true_and, Bool.and_false, Bool.false_and, not_true_eq_false, not_false_eq_true]
          | none =>
            rw [hf] at g3
            subst g3
            by_cases x3 : b.seq = fs[i].next
            · have x3' : (b.seq != fs[i].next) = false := by simp [x3]
              have ea : chkA (fs.map PE.ab) b = (0, false, 0) := by unfold chkA; simp [hk, hp, k3, PE.pv, x1, hcon, x2, hf, x3]
              rw [ea]
              refine ⟨x'.drew, call _ ?_, (Fr.mono (Fr.app (Fr.app F3 g2) fdx) (by have z0_ := Fr.size F3; have z1_ := Fr.size g2; have z2_ := Fr.size fdx; intro y_ hy_ hl_; grind [blkOf]))⟩
              unfold g11
              simp only [hv1, nt, if_false]
              rw [l9, Option.bind_some]
              simp only [G0, G1, G2, G3, G4, G5, G6, G7, G8, asI_int, asB_bool, asSl_slice, Option.bind_some]
              rw [e1', Option.bind_some]
              simp only [hk0, t0, addr_add, Nat.zero_add, c2, lk, hp0, hD, d3, q0, x1, d6, k3', r0, x2, r2, g11_l42_x1_of g1, g11_l42_x1, z4, z1, x3', obs, asP_pointer, asB_bool, asI_int, asS_string, asSl_slice, asM_map, asTup0, asTup1, asTup2, asTup3, asTup4, asTup5, asTup6, asTup7, asTup8, asTup9, getD0, getD1, getD2, getD3, getD4, getD5, getD6, getD7, getD8, getD9, getD10, getD11, Bool.not_true, Bool.not_false, Bool.false_eq_true, Bool.true_eq_false, ↓reduceIte, decide_true, decide_false, Option.isNone_some, Option.isNone_none, Option.isSome_some, Option.isSome_none, beq_self_eq_true, bne_self_eq_false, Bool.and_true, Bool.true_and, Bool.and_false, Bool.false_and, not_true_eq_false, not_false_eq_true]
            · have x3' : (b.seq != fs[i].next) = true := by simpa using x3
              have ea : chkA (fs.map PE.ab) b = (0, false, 11) := by unfold chkA; simp [hk, hp, k3, PE.pv, x1, hcon, x2, hf, x3]
              rw [ea]
              refine ⟨x'.drew, call _ ?_, (Fr.mono (Fr.app (Fr.app F3 g2) fdx) (by have z0_ := Fr.size F3; have z1_ := Fr.size g2; have z2_ := Fr.size fdx; intro y_ hy_ hl_; grind [blkOf]))⟩
              unfold g11
              simp only [hv1, nt, if_false]
              rw [l9, Option.bind_some]
              simp only [G0, G1, G2, G3, G4, G5, G6, G7, G8, asI_int, asB_bool, asSl_slice, Option.bind_some]
              rw [e1', Option.bind_some]
              simp only [hk0, t0, addr_add, Nat.zero_add, c2, lk, hp0, hD, d3, q0, x1, d6, k3', r0, x2, r2, g11_l42_x1_of g1, g11_l42_x1, z4, z1, x3', obs, asP_pointer, asB_bool, asI_int, asS_string, asSl_slice, asM_map, asTup0, asTup1, asTup2, asTup3, asTup4, asTup5, asTup6, asTup7, asTup8, asTup9, getD0, getD1, getD2, getD3, getD4, getD5, getD6, getD7, getD8, getD9, getD10, getD11, Bool.not_true, Bool.not_false, Bool.false_eq_true, Bool.true_eq_false, ↓reduceIte, decide_true, decide_false, Option.isNone_some, Option.isNone_none, Option.isSome_some, Option.isSome_none, beq_self_eq_true, bne_self_eq_false, Bool.and_true, Bool.true_and, Bool.and_false, Bool.false_and, not_true_eq_false, not_false_eq_true]
      · rw [k1] at lk
        have hD : (none : Option Value).getD (.pointer none) = .pointer none := rfl
        cases hcon : b.con with
        | true =>
          rw [hcon] at d6
          have ea : chkA (fs.map PE.ab) b = (0, false, 0) := by unfold chkA; simp [hk, hp, k2, hcon]
          rw [ea]
          refine ⟨w1.drew.drew, call _ ?_, (Fr.mono (Fr.app (Fr.app F1 fd) fd2) (by have z0_ := Fr.size F1; have z1_ := Fr.size fd; have z2_ := Fr.size fd2; intro y_ hy_ hl_; grind [blkOf]))⟩
          unfold g11
          simp only [hv1, nt, if_false]
          rw [l9, Option.bind_some]
          simp only [G0, G1, G2, G3, G4, G5, G6, G7, G8, asI_int, asB_bool, asSl_slice, Option.bind_some]
          rw [e1', Option.bind_some]
          simp only [hk0, t0, addr_add, Nat.zero_add, c2, lk, hp0, hD, d6, obs, asP_pointer, asB_bool, asI_int, asS_string, asSl_slice, asM_map, asTup0, asTup1, asTup2, asTup3, asTup4, asTup5, asTup6, asTup7, asTup8, asTup9, getD0, getD1, getD2, getD3, getD4, getD5, getD6, getD7, getD8, getD9, getD10, getD11, Bool.not_true, Bool.not_false, Bool.false_eq_true, Bool.true_eq_false, ↓reduceIte, decide_true, decide_false, Option.isNone_some, Option.isNone_none, Option.isSome_some, Option.isSome_none, beq_self_eq_true, bne_self_eq_false, Bool.and_true, Bool.true_and, Bool.and_false, Bool.false_and, not_true_eq_false, not_false_eq_true]
        | false =>
        rw [hcon] at d6
        by_cases x3 : b.seq = 0
        · have x3' : (b.seq != 0) = false := by simp [x3]
          have ea : chkA (fs.map PE.ab) b = (0, false, 0) := by unfold chkA; simp [hk, hp, k2, hcon, x3]
          rw [ea]
          refine ⟨w1.drew.drew.drew, call _ ?_, F3⟩
          unfold g11
          simp only [hv1, nt, if_false]
          rw [l9, Option.bind_some]
          simp only [G0, G1, G2, G3, G4, G5, G6, G7, G8, asI_int, asB_bool, asSl_slice, Option.bind_some]
          rw [e1', Option.bind_some]
          simp only [hk0, t0, addr_add, Nat.zero_add, c2, lk, hp0, hD, d6, k4, x3', obs, asP_pointer, asB_bool, asI_int, asS_string, asSl_slice, asM_map, asTup0, asTup1, asTup2, asTup3, asTup4, asTup5, asTup6, asTup7, asTup8, asTup9, getD0, getD1, getD2, getD3, getD4, getD5, getD6, getD7, getD8, getD9, getD10, getD11, Bool.not_true, Bool.not_false, Bool.false_eq_true, Bool.true_eq_false, ↓reduceIte, decide_true, decide_false, Option.isNone_some, Option.isNone_none, Option.isSome_some, Option.isSome_none, beq_self_eq_true, bne_self_eq_false, Bool.and_true, Bool.true_and, Bool.and_false, Bool.false_and, not_true_eq_false, not_false_eq_true]
        · have x3' : (b.seq != 0) = true := by simpa using x3
          have ea : chkA (fs.map PE.ab) b = (0, false, 11) := by unfold chkA; simp [hk, hp, k2, hcon, x3]
          rw [ea]
          refine ⟨w1.drew.drew.drew, call _ ?_, F3⟩
          unfold g11
          simp only [hv1, nt, if_false]
          rw [l9, Option.bind_some]
          simp only [G0, G1, G2, G3, G4, G5, G6, G7, G8, asI_int, asB_bool, asSl_slice, Option.bind_some]
          rw [e1', Option.bind_some]
          simp only [hk0, t0, addr_add, Nat.zero_add, c2, lk, hp0, hD, d6, k4, x3', obs, asP_pointer, asB_bool, asI_int, asS_string, asSl_slice, asM_map, asTup0, asTup1, asTup2, asTup3, asTup4, asTup5, asTup6, asTup7, asTup8, asTup9, getD0, getD1, getD2, getD3, getD4, getD5, getD6, getD7, getD8, getD9, getD10, getD11, Bool.not_true, Bool.not_false, Bool.false_eq_true, Bool.true_eq_false, ↓reduceIte, decide_true, decide_false, Option.isNone_some, Option.isNone_none, Option.isSome_some, Option.isSome_none, beq_self_eq_true, bne_self_eq_false, Bool.and_true, Bool.true_and, Bool.and_false, Bool.false_and, not_true_eq_false, not_false_eq_true]
  · have hk0 : (chkB b != 0) = true := by simp [hk]
    have ea : chkA (fs.map PE.ab) b = (0, false, chkB b) := by unfold chkA; rw [if_pos (by simpa using hk)]
    rw [ea]
    refine ⟨w1, call _ ?_, F1⟩
    unfold g11
    simp only [hv1, nt, if_false]
    rw [l9, Option.bind_some]
    simp only [G0, G1, G2, G3, G4, G5, G6, G7, G8, asI_int, asB_bool, asSl_slice, Option.bind_some]
    rw [e1', Option.bind_some]
    simp only [hk0, obs, asP_pointer, asB_bool, asI_int, asS_string, asSl_slice, asM_map, asTup0, asTup1, asTup2, asTup3, asTup4, asTup5, asTup6, asTup7, asTup8, asTup9, getD0, getD1, getD2, getD3, getD4, getD5, getD6, getD7, getD8, getD9, getD10, getD11, Bool.not_true, Bool.not_false, Bool.false_eq_true, Bool.true_eq_false, ↓reduceIte, decide_true, decide_false, Option.isNone_some, Option.isNone_none, Option.isSome_some, Option.isSome_none, beq_self_eq_true, bne_self_eq_false, Bool.and_true, Bool.true_and, Bool.and_false, Bool.false_and, not_true_eq_false, not_false_eq_true]
end
end Go.Proofs.Ytliakpomlkgpnaa
