/-
  ProdV: lemmas on what Go functions of this seat come to (for whatever arguments, as each says). No condition but those that stand in each lemma.
-/
import Derived.Test.YtliakpomlkgpnaaProdT
namespace Go.Proofs.Ytliakpomlkgpnaa
open Go Go.Ev
set_option maxRecDepth 100000
set_option linter.unusedVariables false
set_option linter.unusedSimpArgs false

/-- the least of the open ones that were met -/
structure Mn (fs : List PE) (vis : List Nat) (s : Int × Bool) : Prop where
  none_ : s.2 = false → s.1 = 0 ∧ ∀ i (h : i < fs.length), i ∈ vis → fs[i].op < 0
  some_ : s.2 = true → (∃ i, ∃ h : i < fs.length, fs[i].op = s.1) ∧ 0 ≤ s.1 ∧ ∀ i (h : i < fs.length), i ∈ vis → 0 ≤ fs[i].op → s.1 ≤ fs[i].op

theorem unstable13 {w : World} {D : Nat → Prop} {tb : Nat} {A : List (Int × PV)} {abl : List Sn} (h : Tb w D tb A abl) : ∃ n f w', callF Try.prog 13 #[.pointer (some ⟨tb, 0, none⟩)] w = some (.tuple #[.int .i64 n, .bool f], w') ∧ Fr [] w w' ∧
    (f = false → n = 0 ∧ ∀ p v, kget A p = some v → v.2.2.2 < 0) ∧ (f = true → (∃ p v, kget A p = some v ∧ v.2.2.2 = n) ∧ 0 ≤ n ∧ ∀ p v, kget A p = some v → 0 ≤ v.2.2.2 → n ≤ v.2.2.2) := by
  obtain ⟨r, q, fs, h1, h2, h3, h4, h5, h6, h7⟩ := h.ex
  subst h1
  have c0 : w.cell? ⟨tb, 0, none⟩ = some (.map (some r)) := h2.cell 0
  obtain ⟨w1, e1, it1, f1⟩ := iter_range (P := Try.prog) (T := 49) Try.underlying49 h4
  have hr := h4.lt
  have hne : w.heap.size ≠ r := by omega
  have hkl : (keysOf fs).length = fs.length := by simp [keysOf]
  obtain ⟨e, t, w2, g1, rfl, f2, hM⟩ := loopS_rule (b := g13_l6_b (some ⟨w.heap.size, 0, none⟩))
    (I := fun k s x => ∃ vis : List Nat, vis.length = k ∧ Iter (Value.int .u64) x w.heap.size r (keysOf fs) vis ∧ Fr [] w x ∧ Mn fs vis s)
    (Q := fun e s x => e = .exit 0 ∧ Fr [] w x ∧ ∃ vis : List Nat, (∀ i, i < fs.length → i ∈ vis) ∧ Mn fs vis s) (n := fs.length)
    (fun k s x hk ⟨vis, hv, hi, hf, hm⟩ => by
      rcases iter_next (P := Try.prog) hi hne 0 with ⟨g1, g2⟩ | ⟨g1, i, hi', x', hv', g2, g3, g4, g5⟩
      · omega
      · rw [hkl] at hi' g1
        have hki : (keysOf fs)[i]'(by rw [hkl]; exact hi') = (fs[i].pid, .pointer (some ⟨fs[i].pb, 0, none⟩)) := by simp [keysOf]
        rw [hki] at g2 g5
        simp only at g2 g5
        have hf' : Fr [] w x' := (hf.app g4).mono (by intro y hy hl; simp at hy; omega)
        have c3 : x'.cell? ⟨fs[i].pb, 3, none⟩ = some (.int .i64 fs[i].op) := (((h5.ok i hi').blk).fr hf' (by simp)).cell 3
        have key : ∀ s', Mn fs (vis ++ [i]) s' → g13_l6_b (some ⟨w.heap.size, 0, none⟩) s x = some (.normal, s', x') → ∃ e s' w', g13_l6_b (some ⟨w.heap.size, 0, none⟩) s x = some (e, s', w') ∧ (e = .normal ∧ (∃ vis : List Nat, vis.length = k + 1 ∧ Iter (Value.int .u64) w' w.heap.size r (keysOf fs) vis ∧ Fr [] w w' ∧ Mn fs vis s') ∨ e ≠ .normal ∧ (e = .exit 0 ∧ Fr [] w w' ∧ ∃ vis : List Nat, (∀ i, i < fs.length → i ∈ vis) ∧ Mn fs vis s')) := by
          intro s' hs' he
          exact ⟨.normal, s', x', he, .inl ⟨rfl, vis ++ [i], by simp [hv], g3, hf', hs'⟩⟩
        obtain ⟨n, f⟩ := s
        by_cases ho : fs[i].op ≥ 0
        · have k1 : decide (fs[i].op ≥ 0) = true := by simp; omega
          cases f with
          | false =>
            refine key (fs[i].op, true) ⟨by simp, fun _ => ⟨⟨i, hi', rfl⟩, ho, fun j hj hjm hj0 => ?_⟩⟩ ?_
            · rw [List.mem_append] at hjm
              rcases hjm with hjm | hjm
              · have := (hm.none_ rfl).2 j hj hjm; omega
              · simp at hjm; subst hjm; exact Int.le_refl _
            · unfold g13_l6_b
              simp only [g2, asNext_t, onNext_s, g5, c3, addr_add, Nat.zero_add, k1, obs, asP_pointer, asB_bool, asI_int, asS_string, asSl_slice, asM_map, asTup0, asTup1, asTup2, asTup3, asTup4, asTup5, asTup6, asTup7, asTup8, asTup9, getD0, getD1, getD2, getD3, getD4, getD5, getD6, getD7, getD8, getD9, getD10, getD11, Bool.not_true, Bool.not_false, Bool.false_eq_true, Bool.true_eq_false, ↓reduceIte, decide_true, decide_false, Option.isNone_some, Option.isNone_none, Option.isSome_some, Option.isSome_none, beq_self_eq_true, bne_self_eq_false, Bool.and_true, Bool.true_and, Bool.and_false, Bool.false_and, not_true_eq_false, not_false_eq_true]
          | true =>
            obtain ⟨m1, m2, m3⟩ := hm.some_ rfl
            by_cases hlt : fs[i].op < n
            · have k2 : decide (fs[i].op < n) = true := by simp; omega
              refine key (fs[i].op, true) ⟨by simp, fun _ => ⟨⟨i, hi', rfl⟩, ho, fun j hj hjm hj0 => ?_⟩⟩ ?_
              · rw [List.mem_append] at hjm
                rcases hjm with hjm | hjm
                · have := m3 j hj hjm hj0; show fs[i].op ≤ _; simp only at this; omega
                · simp at hjm; subst hjm; exact Int.le_refl _
              · unfold g13_l6_b
                simp only [g2, asNext_t, onNext_s, g5, c3, addr_add, Nat.zero_add, k1, k2, obs, asP_pointer, asB_bool, asI_int, asS_string, asSl_slice, asM_map, asTup0, asTup1, asTup2, asTup3, asTup4, asTup5, asTup6, asTup7, asTup8, asTup9, getD0, getD1, getD2, getD3, getD4, getD5, getD6, getD7, getD8, getD9, getD10, getD11, Bool.not_true, Bool.not_false, Bool.false_eq_true, Bool.true_eq_false, ↓reduceIte, decide_true, decide_false, Option.isNone_some, Option.isNone_none, Option.isSome_some, Option.isSome_none, beq_self_eq_true, bne_self_eq_false, Bool.and_true, Bool.true_and, Bool.and_false, Bool.false_and, not_true_eq_false, not_false_eq_true]
            · have k2 : decide (fs[i].op < n) = false := by simp; omega
              refine key (n, true) ⟨by simp, fun _ => ⟨m1, m2, fun j hj hjm hj0 => ?_⟩⟩ ?_
              · rw [List.mem_append] at hjm
                rcases hjm with hjm | hjm
                · exact m3 j hj hjm hj0
                · simp at hjm; subst hjm; show n ≤ _; omega
              · unfold g13_l6_b
                simp only [g2, asNext_t, onNext_s, g5, c3, addr_add, Nat.zero_add, k1, k2, obs, asP_pointer, asB_bool, asI_int, asS_string, asSl_slice, asM_map, asTup0, asTup1, asTup2, asTup3, asTup4, asTup5, asTup6, asTup7, asTup8, asTup9, getD0, getD1, getD2, getD3, getD4, getD5, getD6, getD7, getD8, getD9, getD10, getD11, Bool.not_true, Bool.not_false, Bool.false_eq_true, Bool.true_eq_false, ↓reduceIte, decide_true, decide_false, Option.isNone_some, Option.isNone_none, Option.isSome_some, Option.isSome_none, beq_self_eq_true, bne_self_eq_false, Bool.and_true, Bool.true_and, Bool.and_false, Bool.false_and, not_true_eq_false, not_false_eq_true]
        · have k1 : decide (fs[i].op ≥ 0) = false := by simp; omega
          refine key (n, f) ⟨fun hf => ⟨(hm.none_ hf).1, fun j hj hjm => ?_⟩, fun hf => ?_⟩ ?_
          · rw [List.mem_append] at hjm
            rcases hjm with hjm | hjm
            · exact (hm.none_ hf).2 j hj hjm
            · simp at hjm; subst hjm; omega
          · obtain ⟨m1, m2, m3⟩ := hm.some_ hf
            refine ⟨m1, m2, fun j hj hjm hj0 => ?_⟩
            rw [List.mem_append] at hjm
            rcases hjm with hjm | hjm
            · exact m3 j hj hjm hj0
            · simp at hjm; subst hjm; omega
          · unfold g13_l6_b
            simp only [g2, asNext_t, onNext_s, g5, c3, addr_add, Nat.zero_add, k1, obs, asP_pointer, asB_bool, asI_int, asS_string, asSl_slice, asM_map, asTup0, asTup1, asTup2, asTup3, asTup4, asTup5, asTup6, asTup7, asTup8, asTup9, getD0, getD1, getD2, getD3, getD4, getD5, getD6, getD7, getD8, getD9, getD10, getD11, Bool.not_true, Bool.not_false, Bool.false_eq_true, Bool.true_eq_false, ↓reduceIte, decide_true, decide_false, Option.isNone_some, Option.isNone_none, Option.isSome_some, Option.isSome_none, beq_self_eq_true, bne_self_eq_false, Bool.and_true, Bool.true_and, Bool.and_false, Bool.false_and, not_true_eq_false, not_false_eq_true])
    (fun s x ⟨vis, hv, hi, hf, hm⟩ => by
      rcases iter_next (P := Try.prog) hi hne 0 with ⟨g1, g2⟩ | ⟨g1, i, hi', x', hv', g2, g3, g4, g5⟩
      · refine ⟨.exit 0, s, x, ?_, by simp, rfl, hf, vis, fun i hi' => hi.all g1 i (by rw [hkl]; exact hi'), hm⟩
        unfold g13_l6_b
        simp only [g2, asNext_f, onNext_n, obs, asP_pointer, asB_bool, asI_int, asS_string, asSl_slice, asM_map, asTup0, asTup1, asTup2, asTup3, asTup4, asTup5, asTup6, asTup7, asTup8, asTup9, getD0, getD1, getD2, getD3, getD4, getD5, getD6, getD7, getD8, getD9, getD10, getD11, Bool.not_true, Bool.not_false, Bool.false_eq_true, Bool.true_eq_false, ↓reduceIte, decide_true, decide_false, Option.isNone_some, Option.isNone_none, Option.isSome_some, Option.isSome_none, beq_self_eq_true, bne_self_eq_false, Bool.and_true, Bool.true_and, Bool.and_false, Bool.false_and, not_true_eq_false, not_false_eq_true]
      · rw [hkl] at g1; omega)
    (k := 0) (s := (0, false)) (w := w1) (Nat.zero_le _) ⟨[], rfl, it1, f1, ⟨fun _ => ⟨rfl, fun i h hm => by simp at hm⟩, by simp⟩⟩
  obtain ⟨vis, hall, hm⟩ := hM
  refine ⟨t.1, t.2, w2, g13_call ?_, f2, fun hf => ?_, fun hf => ?_⟩
  · unfold g13
    simp only [c0, e1, g13_l6_x0_of g1, g13_l6_x0, obs, asP_pointer, asB_bool, asI_int, asS_string, asSl_slice, asM_map, asTup0, asTup1, asTup2, asTup3, asTup4, asTup5, asTup6, asTup7, asTup8, asTup9, getD0, getD1, getD2, getD3, getD4, getD5, getD6, getD7, getD8, getD9, getD10, getD11, Bool.not_true, Bool.not_false, Bool.false_eq_true, Bool.true_eq_false, ↓reduceIte, decide_true, decide_false, Option.isNone_some, Option.isNone_none, Option.isSome_some, Option.isSome_none, beq_self_eq_true, bne_self_eq_false, Bool.and_true, Bool.true_and, Bool.and_false, Bool.false_and, not_true_eq_false, not_false_eq_true]
  · obtain ⟨m1, m2⟩ := hm.none_ hf
    refine ⟨m1, fun p v hk => ?_⟩
    rcases keysOf_get fs p with ⟨i, hi, k1, k2, k3, k4⟩ | ⟨k1, k2, k3, k4⟩
    · rw [k3] at hk; cases hk; exact m2 i hi (hall i hi)
    · rw [k2] at hk; cases hk
  · obtain ⟨⟨i, hi, m1⟩, m2, m3⟩ := hm.some_ hf
    refine ⟨⟨fs[i].pid, fs[i].pv, ?_, m1⟩, m2, fun p v hk hv0 => ?_⟩
    · rcases keysOf_get fs fs[i].pid with ⟨j, hj, k1, k2, k3, k4⟩ | ⟨k1, k2, k3, k4⟩
      · have : j = i := by
          by_cases hji : j = i
          · exact hji
          · exact absurd k1 (h5.ap j i hj hi hji).2.1
        subst this
        exact k3
      · exact absurd rfl (k3 i hi)
    · rcases keysOf_get fs p with ⟨i, hi, k1, k2, k3, k4⟩ | ⟨k1, k2, k3, k4⟩
      · rw [k3] at hk; cases hk; exact m3 i hi (hall i hi) hv0
      · rw [k2] at hk; cases hk
end Go.Proofs.Ytliakpomlkgpnaa
