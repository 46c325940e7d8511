/-
  DiskRc: lemmas on what Go functions of this seat come to (for whatever arguments, as each says). No condition but those that stand in each lemma.
-/
import Derived.Test.YtkmidlhnlnolnaaDiskRb
namespace Go.Proofs.Ytkmidlhnlnolnaa
open Go Go.Ev
set_option maxRecDepth 100000
set_option linter.unusedVariables false
set_option linter.unusedSimpArgs false

section
variable {w : World} {E : Nat → Prop} {b : Nat} {qf : ShS} {es : List RE} {fuse : Int} {dead : Bool}

/-- a byte behind a file's end -/
theorem byte_core {x : World} (h : RD x E b qf es fuse dead) {i : Nat} (hi : i < es.length) {z : Int} (hz : 0 ≤ z ∧ z < 256) (hus : used (es.map RE.ab) + 1 ≤ 4194304) :
    ∃ (g off : Nat) (q' : ShS) (r w' : World), qf.1 = some ⟨g, off, none⟩ ∧ idxA qf.1 qf.2.1 3 (i : Int) = some ⟨g, off + i * 3, none⟩ ∧
      (∀ y, Fr [] x y → y.cell? ⟨g, off + i * 3 + 1, none⟩ = some (.slice es[i].q.1 es[i].q.2.1 es[i].q.2.2)) ∧
      callB Try.prog .append #[28, 28] 28 #[false, false] #[.slice es[i].q.1 es[i].q.2.1 es[i].q.2.2, .slice (some ⟨x.drew.heap.size, 0, none⟩) 1 1] (x.drew.alloc (.cells #[.int .u8 z] 5)) = some (.slice q'.1 q'.2.1 q'.2.2, r) ∧
      r.cell? ⟨b, 0, none⟩ = some (.slice qf.1 qf.2.1 qf.2.2) ∧ st1 r ⟨g, off + i * 3 + 1, none⟩ (.slice q'.1 q'.2.1 q'.2.2) = some w' ∧
      RD w' (fun y => E y ∨ x.heap.size ≤ y ∧ y < w'.heap.size) b qf (es.set i ⟨es[i].name, q', es[i].data ++ [z], es[i].syn⟩) fuse dead ∧ Chg E x w' (fun y => E y ∨ x.heap.size ≤ y ∧ y < w'.heap.size) := by
  have hml : maxLen = 9223372036854775807 := by decide
  have hd := h.fr (Fr.drew [] x) (by simp)
  have ok := h.ok _ (List.getElem_mem hi)
  have okd := hd.ok _ (List.getElem_mem hi)
  have okl := ok.own.len
  simp at okl
  have him : i < (es.map RE.ab).length := by simpa using hi
  have hul := used_ge him
  rw [List.getElem_map] at hul
  have e3 : (RE.ab es[i]).2.1.length = es[i].data.length := rfl
  obtain ⟨q', r, e, o, f, n, _⟩ := app_one t28 okd.own (ys := [.int .u8 z]) rfl (by intro y hy; simp at hy; subst hy; rfl) (by omega) (by omega) 28 #[false, false]
  have zd := (Fr.drew [] x).size
  have F1 : Fr (blkOf es[i].q) x r := by have := (Fr.drew [] x).app f; simpa using this
  have orow : Own r 53 3 qf (reCs es) := hd.own.fr f (hd.own.apart okd.own (by decide))
  have br := (h.blk.fr F1 (h.blk.notin ok.own (by decide)))
  obtain ⟨g, off, hq, hix, _, _, hst⟩ := re_at orow hi
  obtain ⟨w', s, o2, f2⟩ := hst 1 (by decide) ⟨es[i].name, q', es[i].data ++ [z], es[i].syn⟩ (.slice q'.1 q'.2.1 q'.2.2) rfl rfl
  have oq : Own r 5 1 q' ((es[i].data ++ [z]).map (Value.int .u8)) := by rw [List.map_append]; exact o
  have F2 : Fr (blkOf es[i].q ++ blkOf qf) x w' := F1.app f2
  obtain ⟨hR, hC⟩ := h.upd hi ⟨es[i].name, q', es[i].data ++ [z], es[i].syn⟩ F2 (fun y hy => by rcases List.mem_append.mp hy with hy | hy; exact .inr (.inl hy); exact .inl hy) o2 (oq.fr f2 (oq.apart orow (by decide))) (by
    intro v hv
    rcases List.mem_append.mp hv with hv | hv
    · exact ok.zs v hv
    · simp at hv; subst hv; exact hz) (fun y hy => by rcases n y hy with hh | hh; exact .inl hh; exact .inr (by omega)) (by
    have := used_setR (A := es.map RE.ab) (k := i) him (RE.ab ⟨es[i].name, q', es[i].data ++ [z], es[i].syn⟩)
    rw [← List.map_set] at this
    simp only [List.getElem_map, RE.ab, List.length_append, List.length_singleton] at this
    omega)
  refine ⟨g, off, q', r, w', hq, hix, fun y hy => ?_, e, br.cell 0, s, hR, hC⟩
  have hyy := h.fr hy (by simp)
  obtain ⟨g', off', hq', _, _, hc, _⟩ := re_at hyy.own hi
  obtain ⟨rfl, rfl⟩ : g = g' ∧ off = off' := by rw [hq] at hq'; simp at hq'; exact hq'
  have := hc 1 (by decide); simpa [RE.cs] using this

theorem byte_round (h : RD w E b qf es fuse false) {i : Nat} (hi : i < es.length) {u : ShS} {p : List Int} (hp : Sl8 w u p) (hz : Zs p) {k : Nat} (hk : k < p.length) (hap : ∀ y ∈ blkOf u, ¬ E y) (hf : fuse ≠ 0) (hf2 : -1 ≤ fuse ∧ fuse ≤ 9223372036854775807) (hus : used (es.map RE.ab) + 1 ≤ 4194304) (hpl : p.length ≤ 4194304) (c : Int) :
    ∃ (E' : Nat → Prop) (es' : List RE) (w' : World), g28_l22_b u (some ⟨b, 0, none⟩) (i : Int) (c, (k : Int)) w = some (.normal, (c, ((k + 1 : Nat) : Int)), w') ∧
      RD w' E' b qf es' (if fuse > 0 then fuse - 1 else fuse) false ∧ es'.map RE.ab = (es.map RE.ab).set i (es[i].name, es[i].data ++ [p[k]], es[i].syn) ∧ Chg E w w' E' := by
  have hul := hp.1
  have k0 : decide ((k : Int) < (u.2.1 : Int)) = true := by simp; omega
  have kw := wrap_succ (n := k) (by omega)
  have kf : (fuse == 0) = false := by simp [hf]
  have hzk : 0 ≤ p[k] ∧ p[k] < 256 := hz _ (List.getElem_mem hk)
  by_cases f0 : fuse > 0
  · have kp : decide (fuse > 0) = true := by simp only [f0, decide_true]
    have fw : IntKind.i64.wrap (fuse - 1) = fuse - 1 := wrap_i64 (by omega) (by omega)
    obtain ⟨x, s1, h1, f1⟩ := h.put1 (i := 1) (by decide) (v := .int .i64 (fuse - 1)) rfl (fuse' := fuse - 1) (dead' := false) rfl
    have C1 : Chg E w x E := ⟨⟨[b], f1, fun y hy => by simp at hy; subst hy; exact h.eb⟩, fun _ => id, fun _ => .inl⟩
    obtain ⟨g, off, q', r, w', hq, hix, hc, e, cr, s, hR, hC⟩ := byte_core h1 hi hzk hus
    have hd := Fr.drew [] x
    have fa : Fr [] x (x.drew.alloc (.cells #[.int .u8 p[k]] 5)) := by have := hd.app (Fr.alloc (w := x.drew) (.cells #[.int .u8 p[k]] 5)); simpa using this
    obtain ⟨a, ia, ca⟩ := ((hp.fr2 f1 (fun y hy hm => by simp at hm; subst hm; exact hap _ hy h.eb)).fr2 hd (by simp)).get hk
    have cd := (h1.fr hd (by simp)).c0
    have cA := (h1.fr fa (by simp)).c0
    have qd := hc _ hd
    have qA := hc _ fa
    rw [if_pos f0]
    refine ⟨_, _, w', ?_, hR, ?_, C1.trans hC h.lt⟩
    · have J120 : ∀ u0 u2 a26 n28 a32 n34 a35 n37 a38 a41 a46 a52 n55 w39, g28_j120a (i : Int) u0 u2 (c, (k : Int)) a26 n28 a32 n34 a35 n37 a38 a41 a46 a52 n55 w39 qf q' r = some (.normal, (c, ((k + 1 : Nat) : Int)), w') := by
        intro u0 u2 a26 n28 a32 n34 a35 n37 a38 a41 a46 a52 n55 w39
        unfold g28_j120a
        simp only [hix, addr_add, s, kw, obs, asP_pointer, asB_bool, asI_int, asS_string, asSl_slice, asM_map, asTup0, asTup1, asTup2, asTup3, asTup4, asTup5, asTup6, asTup7, asTup8, asTup9, asAgg2, asAgg3, asAgg4, asAgg5, asAgg6, asAgg7, asAgg8, asAgg9, asAgg12, getD0, getD1, getD2, getD3, getD4, getD5, getD6, getD7, getD8, getD9, getD10, getD11, getD12, getD13, getD14, getD15, getD16, getD17, getD18, getD19, Bool.not_true, Bool.not_false, Bool.false_eq_true, Bool.true_eq_false, ↓reduceIte, decide_true, decide_false, Option.isNone_some, Option.isNone_none, Option.isSome_some, Option.isSome_none, beq_self_eq_true, bne_self_eq_false, Bool.and_true, Bool.true_and, Bool.and_false, Bool.false_and, not_true_eq_false, not_false_eq_true]
      have J102a : ∀ u0 u2 a26 n28 a32 n34 a35 n37 a38 a41 a46 a52, g28_j102a x p[k] u0 u2 (c, (k : Int)) (i : Int) a26 n28 a32 n34 a35 n37 a38 a41 a46 a52 qf es[i].q = some (.normal, (c, ((k + 1 : Nat) : Int)), w') := by
        intro u0 u2 a26 n28 a32 n34 a35 n37 a38 a41 a46 a52
        unfold g28_j102a
        simp only [e, obs, asP_pointer, asB_bool, asI_int, asS_string, asSl_slice, asM_map, asTup0, asTup1, asTup2, asTup3, asTup4, asTup5, asTup6, asTup7, asTup8, asTup9, asAgg2, asAgg3, asAgg4, asAgg5, asAgg6, asAgg7, asAgg8, asAgg9, asAgg12, getD0, getD1, getD2, getD3, getD4, getD5, getD6, getD7, getD8, getD9, getD10, getD11, getD12, getD13, getD14, getD15, getD16, getD17, getD18, getD19, Bool.not_true, Bool.not_false, Bool.false_eq_true, Bool.true_eq_false, ↓reduceIte, decide_true, decide_false, Option.isNone_some, Option.isNone_none, Option.isSome_some, Option.isSome_none, beq_self_eq_true, bne_self_eq_false, Bool.and_true, Bool.true_and, Bool.and_false, Bool.false_and, not_true_eq_false, not_false_eq_true]
        exact J120 ..
      have J102b : ∀ u0 u2 a26 n28 a32 n34 a35 n37 a38 a41 a46 a52, g28_j102b x p[k] u0 u2 (c, (k : Int)) (i : Int) a26 n28 a32 n34 a35 n37 a38 a41 a46 a52 qf es[i].q = some (.normal, (c, ((k + 1 : Nat) : Int)), w') := by
        intro u0 u2 a26 n28 a32 n34 a35 n37 a38 a41 a46 a52
        unfold g28_j102b
        simp only [e, obs, asP_pointer, asB_bool, asI_int, asS_string, asSl_slice, asM_map, asTup0, asTup1, asTup2, asTup3, asTup4, asTup5, asTup6, asTup7, asTup8, asTup9, asAgg2, asAgg3, asAgg4, asAgg5, asAgg6, asAgg7, asAgg8, asAgg9, asAgg12, getD0, getD1, getD2, getD3, getD4, getD5, getD6, getD7, getD8, getD9, getD10, getD11, getD12, getD13, getD14, getD15, getD16, getD17, getD18, getD19, Bool.not_true, Bool.not_false, Bool.false_eq_true, Bool.true_eq_false, ↓reduceIte, decide_true, decide_false, Option.isNone_some, Option.isNone_none, Option.isSome_some, Option.isSome_none, beq_self_eq_true, bne_self_eq_false, Bool.and_true, Bool.true_and, Bool.and_false, Bool.false_and, not_true_eq_false, not_false_eq_true]
        exact J120 ..
      have J81 : ∀ u0 u2 a26 n28 a32 n34 a35 n37 a38 a41 a46 a52, g28_j81 x u0 u2 (c, (k : Int)) (i : Int) a26 n28 a32 n34 a35 n37 a38 a41 a46 a52 p[k] qf ⟨g, off + i * 3 + 1, none⟩ = some (.normal, (c, ((k + 1 : Nat) : Int)), w') := by
        intro u0 u2 a26 n28 a32 n34 a35 n37 a38 a41 a46 a52
        unfold g28_j81
        simp only [qd, qA, J102a, ite_self, obs, asP_pointer, asB_bool, asI_int, asS_string, asSl_slice, asM_map, asTup0, asTup1, asTup2, asTup3, asTup4, asTup5, asTup6, asTup7, asTup8, asTup9, asAgg2, asAgg3, asAgg4, asAgg5, asAgg6, asAgg7, asAgg8, asAgg9, asAgg12, getD0, getD1, getD2, getD3, getD4, getD5, getD6, getD7, getD8, getD9, getD10, getD11, getD12, getD13, getD14, getD15, getD16, getD17, getD18, getD19, Bool.not_true, Bool.not_false, Bool.false_eq_true, Bool.true_eq_false, ↓reduceIte, decide_true, decide_false, Option.isNone_some, Option.isNone_none, Option.isSome_some, Option.isSome_none, beq_self_eq_true, bne_self_eq_false, Bool.and_true, Bool.true_and, Bool.and_false, Bool.false_and, not_true_eq_false, not_false_eq_true]
      have J89 : ∀ u0 u2 a26 n28 a32 n34 a35 n37 a38 a46 a52, g28_j89 x p[k] u0 u2 (c, (k : Int)) (i : Int) a26 n28 a32 n34 a35 n37 a38 ⟨b, 0, none⟩ a46 a52 ⟨g, off + i * 3 + 1, none⟩ = some (.normal, (c, ((k + 1 : Nat) : Int)), w') := by
        intro u0 u2 a26 n28 a32 n34 a35 n37 a38 a46 a52
        unfold g28_j89
        simp only [qA, cA, J102a, e, cr, hix, addr_add, s, kw, ite_self, obs, asP_pointer, asB_bool, asI_int, asS_string, asSl_slice, asM_map, asTup0, asTup1, asTup2, asTup3, asTup4, asTup5, asTup6, asTup7, asTup8, asTup9, asAgg2, asAgg3, asAgg4, asAgg5, asAgg6, asAgg7, asAgg8, asAgg9, asAgg12, getD0, getD1, getD2, getD3, getD4, getD5, getD6, getD7, getD8, getD9, getD10, getD11, getD12, getD13, getD14, getD15, getD16, getD17, getD18, getD19, Bool.not_true, Bool.not_false, Bool.false_eq_true, Bool.true_eq_false, ↓reduceIte, decide_true, decide_false, Option.isNone_some, Option.isNone_none, Option.isSome_some, Option.isSome_none, beq_self_eq_true, bne_self_eq_false, Bool.and_true, Bool.true_and, Bool.and_false, Bool.false_and, not_true_eq_false, not_false_eq_true]
      unfold g28_l22_b
      simp only [k0, addr_add, Nat.zero_add, h.c1, kf, kp, fw, s1, ia, ca, cd, cA, hix, qd, qA, J81, J102b, J102a, J89, e, cr, s, kw, ite_self, obs, asP_pointer, asB_bool, asI_int, asS_string, asSl_slice, asM_map, asTup0, asTup1, asTup2, asTup3, asTup4, asTup5, asTup6, asTup7, asTup8, asTup9, asAgg2, asAgg3, asAgg4, asAgg5, asAgg6, asAgg7, asAgg8, asAgg9, asAgg12, getD0, getD1, getD2, getD3, getD4, getD5, getD6, getD7, getD8, getD9, getD10, getD11, getD12, getD13, getD14, getD15, getD16, getD17, getD18, getD19, Bool.not_true, Bool.not_false, Bool.false_eq_true, Bool.true_eq_false, ↓reduceIte, decide_true, decide_false, Option.isNone_some, Option.isNone_none, Option.isSome_some, Option.isSome_none, beq_self_eq_true, bne_self_eq_false, Bool.and_true, Bool.true_and, Bool.and_false, Bool.false_and, not_true_eq_false, not_false_eq_true]
    · rw [List.map_set]; rfl
  · have kp : decide (fuse > 0) = false := by simp only [f0, decide_false]
    obtain ⟨g, off, q', r, w', hq, hix, hc, e, cr, s, hR, hC⟩ := byte_core h hi hzk hus
    have hd := Fr.drew [] w
    have fa : Fr [] w (w.drew.alloc (.cells #[.int .u8 p[k]] 5)) := by have := hd.app (Fr.alloc (w := w.drew) (.cells #[.int .u8 p[k]] 5)); simpa using this
    obtain ⟨a, ia, ca⟩ := (hp.fr2 hd (by simp)).get hk
    have cd := (h.fr hd (by simp)).c0
    have cA := (h.fr fa (by simp)).c0
    have qd := hc _ hd
    have qA := hc _ fa
    rw [if_neg f0]
    refine ⟨_, _, w', ?_, hR, ?_, hC⟩
    · have J120 : ∀ u0 u2 a26 n28 a32 n34 a142 a147 a153 n156 w24, g28_j221a (i : Int) u0 u2 (c, (k : Int)) a26 n28 a32 n34 a142 a147 a153 n156 w24 qf q' r = some (.normal, (c, ((k + 1 : Nat) : Int)), w') := by
        intro u0 u2 a26 n28 a32 n34 a142 a147 a153 n156 w24
        unfold g28_j221a
        simp only [hix, addr_add, s, kw, obs, asP_pointer, asB_bool, asI_int, asS_string, asSl_slice, asM_map, asTup0, asTup1, asTup2, asTup3, asTup4, asTup5, asTup6, asTup7, asTup8, asTup9, asAgg2, asAgg3, asAgg4, asAgg5, asAgg6, asAgg7, asAgg8, asAgg9, asAgg12, getD0, getD1, getD2, getD3, getD4, getD5, getD6, getD7, getD8, getD9, getD10, getD11, getD12, getD13, getD14, getD15, getD16, getD17, getD18, getD19, Bool.not_true, Bool.not_false, Bool.false_eq_true, Bool.true_eq_false, ↓reduceIte, decide_true, decide_false, Option.isNone_some, Option.isNone_none, Option.isSome_some, Option.isSome_none, beq_self_eq_true, bne_self_eq_false, Bool.and_true, Bool.true_and, Bool.and_false, Bool.false_and, not_true_eq_false, not_false_eq_true]
      have J102a : ∀ u0 u2 a26 n28 a32 n34 a142 a147 a153, g28_j203a w p[k] u0 u2 (c, (k : Int)) (i : Int) a26 n28 a32 n34 a142 a147 a153 qf es[i].q = some (.normal, (c, ((k + 1 : Nat) : Int)), w') := by
        intro u0 u2 a26 n28 a32 n34 a142 a147 a153
        unfold g28_j203a
        simp only [e, obs, asP_pointer, asB_bool, asI_int, asS_string, asSl_slice, asM_map, asTup0, asTup1, asTup2, asTup3, asTup4, asTup5, asTup6, asTup7, asTup8, asTup9, asAgg2, asAgg3, asAgg4, asAgg5, asAgg6, asAgg7, asAgg8, asAgg9, asAgg12, getD0, getD1, getD2, getD3, getD4, getD5, getD6, getD7, getD8, getD9, getD10, getD11, getD12, getD13, getD14, getD15, getD16, getD17, getD18, getD19, Bool.not_true, Bool.not_false, Bool.false_eq_true, Bool.true_eq_false, ↓reduceIte, decide_true, decide_false, Option.isNone_some, Option.isNone_none, Option.isSome_some, Option.isSome_none, beq_self_eq_true, bne_self_eq_false, Bool.and_true, Bool.true_and, Bool.and_false, Bool.false_and, not_true_eq_false, not_false_eq_true]
        exact J120 ..
      have J102b : ∀ u0 u2 a26 n28 a32 n34 a142 a147 a153, g28_j203b w p[k] u0 u2 (c, (k : Int)) (i : Int) a26 n28 a32 n34 a142 a147 a153 qf es[i].q = some (.normal, (c, ((k + 1 : Nat) : Int)), w') := by
        intro u0 u2 a26 n28 a32 n34 a142 a147 a153
        unfold g28_j203b
        simp only [e, obs, asP_pointer, asB_bool, asI_int, asS_string, asSl_slice, asM_map, asTup0, asTup1, asTup2, asTup3, asTup4, asTup5, asTup6, asTup7, asTup8, asTup9, asAgg2, asAgg3, asAgg4, asAgg5, asAgg6, asAgg7, asAgg8, asAgg9, asAgg12, getD0, getD1, getD2, getD3, getD4, getD5, getD6, getD7, getD8, getD9, getD10, getD11, getD12, getD13, getD14, getD15, getD16, getD17, getD18, getD19, Bool.not_true, Bool.not_false, Bool.false_eq_true, Bool.true_eq_false, ↓reduceIte, decide_true, decide_false, Option.isNone_some, Option.isNone_none, Option.isSome_some, Option.isSome_none, beq_self_eq_true, bne_self_eq_false, Bool.and_true, Bool.true_and, Bool.and_false, Bool.false_and, not_true_eq_false, not_false_eq_true]
        exact J120 ..
      have J81 : ∀ u0 u2 a26 n28 a32 n34 a142 a147 a153, g28_j182 w u0 u2 (c, (k : Int)) (i : Int) a26 n28 a32 n34 a142 a147 a153 p[k] qf ⟨g, off + i * 3 + 1, none⟩ = some (.normal, (c, ((k + 1 : Nat) : Int)), w') := by
        intro u0 u2 a26 n28 a32 n34 a142 a147 a153
        unfold g28_j182
        simp only [qd, qA, J102a, ite_self, obs, asP_pointer, asB_bool, asI_int, asS_string, asSl_slice, asM_map, asTup0, asTup1, asTup2, asTup3, asTup4, asTup5, asTup6, asTup7, asTup8, asTup9, asAgg2, asAgg3, asAgg4, asAgg5, asAgg6, asAgg7, asAgg8, asAgg9, asAgg12, getD0, getD1, getD2, getD3, getD4, getD5, getD6, getD7, getD8, getD9, getD10, getD11, getD12, getD13, getD14, getD15, getD16, getD17, getD18, getD19, Bool.not_true, Bool.not_false, Bool.false_eq_true, Bool.true_eq_false, ↓reduceIte, decide_true, decide_false, Option.isNone_some, Option.isNone_none, Option.isSome_some, Option.isSome_none, beq_self_eq_true, bne_self_eq_false, Bool.and_true, Bool.true_and, Bool.and_false, Bool.false_and, not_true_eq_false, not_false_eq_true]
      have J89 : ∀ u0 u2 a26 n28 a32 n34 a147 a153, g28_j190 w p[k] u0 u2 (c, (k : Int)) (i : Int) a26 n28 a32 n34 ⟨b, 0, none⟩ a147 a153 ⟨g, off + i * 3 + 1, none⟩ = some (.normal, (c, ((k + 1 : Nat) : Int)), w') := by
        intro u0 u2 a26 n28 a32 n34 a147 a153
        unfold g28_j190
        simp only [qA, cA, J102a, e, cr, hix, addr_add, s, kw, ite_self, obs, asP_pointer, asB_bool, asI_int, asS_string, asSl_slice, asM_map, asTup0, asTup1, asTup2, asTup3, asTup4, asTup5, asTup6, asTup7, asTup8, asTup9, asAgg2, asAgg3, asAgg4, asAgg5, asAgg6, asAgg7, asAgg8, asAgg9, asAgg12, getD0, getD1, getD2, getD3, getD4, getD5, getD6, getD7, getD8, getD9, getD10, getD11, getD12, getD13, getD14, getD15, getD16, getD17, getD18, getD19, Bool.not_true, Bool.not_false, Bool.false_eq_true, Bool.true_eq_false, ↓reduceIte, decide_true, decide_false, Option.isNone_some, Option.isNone_none, Option.isSome_some, Option.isSome_none, beq_self_eq_true, bne_self_eq_false, Bool.and_true, Bool.true_and, Bool.and_false, Bool.false_and, not_true_eq_false, not_false_eq_true]
      unfold g28_l22_b
      simp only [k0, addr_add, Nat.zero_add, h.c1, kf, kp, ia, ca, cd, cA, hix, qd, qA, J81, J102b, J102a, J89, e, cr, s, kw, ite_self, obs, asP_pointer, asB_bool, asI_int, asS_string, asSl_slice, asM_map, asTup0, asTup1, asTup2, asTup3, asTup4, asTup5, asTup6, asTup7, asTup8, asTup9, asAgg2, asAgg3, asAgg4, asAgg5, asAgg6, asAgg7, asAgg8, asAgg9, asAgg12, getD0, getD1, getD2, getD3, getD4, getD5, getD6, getD7, getD8, getD9, getD10, getD11, getD12, getD13, getD14, getD15, getD16, getD17, getD18, getD19, Bool.not_true, Bool.not_false, Bool.false_eq_true, Bool.true_eq_false, ↓reduceIte, decide_true, decide_false, Option.isNone_some, Option.isNone_none, Option.isSome_some, Option.isSome_none, beq_self_eq_true, bne_self_eq_false, Bool.and_true, Bool.true_and, Bool.and_false, Bool.false_and, not_true_eq_false, not_false_eq_true]
    · rw [List.map_set]; rfl
end
end Go.Proofs.Ytkmidlhnlnolnaa
