/-
  DiskX: lemmas on what Go functions of this seat come to (for whatever arguments, as each says). No condition but those that stand in each lemma.
-/
import Derived.Test.YtkmidlhnlnolnaaDiskW
namespace Go.Proofs.Ytkmidlhnlnolnaa
open Go Go.Ev
set_option maxRecDepth 100000
set_option linter.unusedVariables false
set_option linter.unusedSimpArgs false

theorem used_perm {A B : List (ByteArray × FV)} (h : A.Perm B) : used A = used B := by
  unfold used
  induction h with
  | nil => rfl
  | cons x h ih => simp only [List.map_cons, List.sum_cons]; omega
  | swap x y l => simp only [List.map_cons, List.sum_cons]; omega
  | trans h1 h2 i1 i2 => omega

theorem t49 : TSl Try.prog 49 53 3 48 := tsl_of Try.underlying49 (by kernel_rfl)

theorem app_re {x : World} {l : ShS} {ls : List RE} (o : Own x 53 3 l (reCs ls)) (hl : ls.length ≤ 5000) (f : RE) :
    ∃ (l' : ShS) (x' : World), callB Try.prog .append #[49, 49] 49 #[false, false] #[.slice l.1 l.2.1 l.2.2, .slice (some ⟨x.heap.size, 0, none⟩) 1 1] (x.alloc (.cells #[.string f.name, .slice f.q.1 f.q.2.1 f.q.2.2, .int .i64 (f.syn : Int)] 53)) = some (.slice l'.1 l'.2.1 l'.2.2, x') ∧
      Own x' 53 3 l' (reCs (ls ++ [f])) ∧ Fr (blkOf l) x x' ∧ ∀ y ∈ blkOf l', y ∈ blkOf l ∨ x.heap.size ≤ y := by
  have hml : maxLen = 9223372036854775807 := by decide
  have hol := o.len
  rw [reCs_len] at hol
  obtain ⟨l', x', e, o', f', n, _⟩ := app_one t49 o (ys := f.cs) rfl (recs_oc f) (by omega) (by omega) 49 #[false, false]
  refine ⟨l', x', e, ?_, f', n⟩
  have : reCs (ls ++ [f]) = reCs ls ++ f.cs := by rw [reCs_app]; simp [reCs]
  rw [this]; exact o'

/-- the row under way in put -/
structure PB (w0 x : World) (f : RE) (l : ShS) (ls : List RE) : Prop where
  own : Own x 53 3 l (reCs ls)
  fr : Fr [] w0 x
  new : ∀ y ∈ blkOf l, w0.heap.size < y
  tmp : Blk x w0.heap.size f.cs 53

theorem PB.add {w0 x : World} {f : RE} {l : ShS} {ls : List RE} (h : PB w0 x f l ls) (hl : ls.length ≤ 5000) (g : RE) :
    ∃ (l' : ShS) (x' : World), callB Try.prog .append #[49, 49] 49 #[false, false] #[.slice l.1 l.2.1 l.2.2, .slice (some ⟨x.heap.size, 0, none⟩) 1 1] (x.alloc (.cells #[.string g.name, .slice g.q.1 g.q.2.1 g.q.2.2, .int .i64 (g.syn : Int)] 53)) = some (.slice l'.1 l'.2.1 l'.2.2, x') ∧ PB w0 x' f l' (ls ++ [g]) := by
  obtain ⟨l', x', e, o, f', n⟩ := app_re h.own hl g
  have := h.tmp.lt
  refine ⟨l', x', e, o, (h.fr.app f').mono ?_, fun y hy => ?_, h.tmp.fr f' fun hm => by have := h.new _ hm; omega⟩
  · intro y hy hlt
    simp at hy
    have := h.new y hy; omega
  · rcases n y hy with hh | hh
    · exact h.new y hh
    · omega
theorem PB.drew {w0 x : World} {f : RE} {l : ShS} {ls : List RE} (h : PB w0 x f l ls) : PB w0 x.drew f l ls :=
  ⟨h.own.fr (Fr.drew [] x) (by simp), (by have d := Fr.drew [] x; have := h.fr.app d; simpa using this), h.new, h.tmp.fr (Fr.drew [] x) (by simp)⟩

section
variable {w : World} {E : Nat → Prop} {b : Nat} {qf : ShS} {es : List RE} {fuse : Int} {dead : Bool}

/-- what a new row behind the disk makes of it -/
theorem RD.row {w1 w2 : World} {qn : ShS} {es' : List RE} (h : RD w E b qf es fuse dead) (f1 : Fr [] w w1) (o : Own w1 53 3 qn (reCs es')) (hn : ∀ y ∈ blkOf qn, w.heap.size ≤ y)
    (hok : ∀ f ∈ es', REok w1 (fun y => E y ∨ w.heap.size ≤ y ∧ y < w1.heap.size) f) (hap : es'.Pairwise Dis) (hus : used (es'.map RE.ab) ≤ 4194304) (hle : es'.length ≤ 4096)
    (hs : st1 w1 ⟨b, 0, none⟩ (.slice qn.1 qn.2.1 qn.2.2) = some w2) : RD w2 (fun y => E y ∨ w.heap.size ≤ y ∧ y < w2.heap.size) b qn es' fuse dead ∧ Fr [b] w w2 := by
  have h1 := h.fr f1 (by simp)
  have s := h1.blk.st1 (i := 0) (v := .slice qn.1 qn.2.1 qn.2.2) (by simp) rfl
  rw [s] at hs
  injection hs with hs
  have b2 := h1.blk.set 0 (.slice qn.1 qn.2.1 qn.2.2)
  have f2 : Fr [b] w1 (w1.setCell ⟨b, 0, none⟩ (.slice qn.1 qn.2.1 qn.2.2)) := Fr.setCell
  rw [hs] at b2 f2
  have z1 := f1.size
  have z2 := f2.size
  have hb := h.lt b h.eb
  refine ⟨⟨b2, o.fr f2 (fun y hy hm => by simp at hm; subst hm; have := hn _ hy; omega), fun f hf => ?_, hap, .inl h.eb, fun y hy => .inr ⟨hn y hy, by have := o.lt y hy; omega⟩, fun y hy => ?_, hus, hle⟩, (f1.app f2).mono (by intro y hy _; simpa using hy)⟩
  · have ok := hok f hf
    exact ok.fr f2 (fun y hy hm => by simp at hm; subst hm; exact h1.blk.notin ok.own (by decide) hy) (fun y hy => by rcases hy with hy | hy; exact .inl hy; exact .inr ⟨hy.1, by omega⟩)
  · rcases hy with hy | hy
    · have := h.lt y hy; omega
    · exact hy.2

theorem put39 (h : RD w E b qf es fuse dead) (f : RE) (hf : REok w E f) (hd : ∀ g ∈ es, Dis f g) (hus : used ((f :: es).map RE.ab) ≤ 4194304) (hle : es.length < 4096) :
    ∃ (qn : ShS) (w' : World) (es' : List RE), callF Try.prog 39 #[.pointer (some ⟨b, 0, none⟩), .agg #[.string f.name, .slice f.q.1 f.q.2.1 f.q.2.2, .int .i64 (f.syn : Int)]] w = some (.tuple #[], w') ∧
      es'.Perm (f :: es) ∧ RD w' (fun y => E y ∨ w.heap.size ≤ y ∧ y < w'.heap.size) b qn es' fuse dead ∧ Fr [b] w w' := by
  have hfl := h.flen
  have fa : Fr [] w (w.alloc (.cells #[.string f.name, .slice f.q.1 f.q.2.1 f.q.2.2, .int .i64 (f.syn : Int)] 53)) := Fr.alloc _
  have ba : Blk (w.alloc (.cells #[.string f.name, .slice f.q.1 f.q.2.1 f.q.2.2, .int .i64 (f.syn : Int)] 53)) w.heap.size f.cs 53 := Blk.new w f.cs 53
  obtain ⟨w1, hw1⟩ : ∃ w1, w.alloc (.cells #[.string f.name, .slice f.q.1 f.q.2.1 f.q.2.2, .int .i64 (f.syn : Int)] 53) = w1 := ⟨_, rfl⟩
  rw [hw1] at fa ba
  have tl : ∀ {x : World} {l : ShS} {ls : List RE}, PB w x f l ls → ldN x ⟨w.heap.size, 0, none⟩ 0 3 = some [.string f.name, .slice f.q.1 f.q.2.1 f.q.2.2, .int .i64 (f.syn : Int)] := fun hx => hx.tmp.ldN (n := 3) rfl
  have tn : ∀ {x : World} {l : ShS} {ls : List RE}, PB w x f l ls → x.cell? ⟨w.heap.size, 0, none⟩ = some (.string f.name) := fun hx => hx.tmp.cell 0
  have rc : ∀ {x : World}, Fr [] w x → x.cell? ⟨b, 0, none⟩ = some (.slice qf.1 qf.2.1 qf.2.2) := fun hx => (h.fr hx (by simp)).c0
  obtain ⟨t, w2, g2, l, laid, ht, ls, hB, hls⟩ := loopS_countX 0 (b := g39_l1_b (some ⟨b, 0, none⟩) w) (n := es.length)
    (I := fun k s x => ∃ (l : ShS) (laid : Bool), s = (l, laid, (k : Int)) ∧ ∃ ls, PB w x f l ls ∧ (if laid = true then ls.Perm (f :: es.take k) else ls = es.take k))
    (fun k s x hk ⟨l, laid, hs, ls, hB, hls⟩ => by
      subst hs
      have hlen : ls.length ≤ 4097 := by
        split at hls
        · have := hls.length_eq; simp at this; omega
        · rw [hls]; simp; omega
      have k0 : decide ((k : Int) < (qf.2.1 : Int)) = true := by simp; omega
      have kw := wrap_succ (n := k) (by omega)
      have hD := hB.drew
      obtain ⟨g, off, ha, hi, hld, hc, _⟩ := re_at (h.fr hD.fr (by simp)).own hk
      have c0 : x.drew.cell? ⟨g, off + k * 3, none⟩ = some (.string es[k].name) := by have := hc 0 (by decide); simpa [RE.cs] using this
      simp only [RE.cs] at hld
      have tks : es.take (k + 1) = es.take k ++ [es[k]] := (List.take_append_getElem hk).symm
      have cx := rc hB.fr
      have cd := rc hD.fr
      cases laid with
      | true =>
        obtain ⟨l', x', e, hB'⟩ := hD.add (by omega) es[k]
        refine ⟨(l', true, ((k + 1 : Nat) : Int)), x', ?_, l', true, rfl, _, hB', ?_⟩
        · unfold g39_l1_b
          simp only [cx, k0, cd, hi, hld, e, kw, obs, asP_pointer, asB_bool, asI_int, asS_string, asSl_slice, asM_map, asTup0, asTup1, asTup2, asTup3, asTup4, asTup5, asTup6, asTup7, asTup8, asTup9, asAgg2, asAgg3, asAgg4, asAgg5, asAgg6, asAgg7, asAgg8, asAgg9, asAgg12, getD0, getD1, getD2, getD3, getD4, getD5, getD6, getD7, getD8, getD9, getD10, getD11, getD12, getD13, getD14, getD15, getD16, getD17, getD18, getD19, Bool.not_true, Bool.not_false, Bool.false_eq_true, Bool.true_eq_false, ↓reduceIte, decide_true, decide_false, Option.isNone_some, Option.isNone_none, Option.isSome_some, Option.isSome_none, beq_self_eq_true, bne_self_eq_false, Bool.and_true, Bool.true_and, Bool.and_false, Bool.false_and, not_true_eq_false, not_false_eq_true]
        · simp only [if_true] at hls ⊢
          rw [tks]
          exact (hls.append_right [es[k]])
      | false =>
        simp only [Bool.false_eq_true, if_false] at hls
        by_cases hb : (!((Op.bytesLess es[k].name.toList f.name.toList) || (es[k].name.toList == f.name.toList))) = true
        · obtain ⟨l1, x1, e1, hB1⟩ := hD.add (by omega) f
          obtain ⟨g', off', ha', hi', hld', _, _⟩ := re_at (h.fr hB1.fr (by simp)).own hk
          obtain ⟨rfl, rfl⟩ : g' = g ∧ off' = off := by rw [ha] at ha'; simp at ha'; exact ⟨ha'.1.symm, ha'.2.symm⟩
          simp only [RE.cs] at hld'
          have c1 := rc hB1.fr
          obtain ⟨l2, x2, e2, hB2⟩ := hB1.add (by simp; omega) es[k]
          have tl1 := tl hD
          have tn1 := tn hD
          refine ⟨(l2, true, ((k + 1 : Nat) : Int)), x2, ?_, l2, true, rfl, _, hB2, ?_⟩
          · unfold g39_l1_b
            simp only [cx, k0, cd, hi, c0, tn1, hb, tl1, e1, c1, hi', hld', e2, kw, obs, asP_pointer, asB_bool, asI_int, asS_string, asSl_slice, asM_map, asTup0, asTup1, asTup2, asTup3, asTup4, asTup5, asTup6, asTup7, asTup8, asTup9, asAgg2, asAgg3, asAgg4, asAgg5, asAgg6, asAgg7, asAgg8, asAgg9, asAgg12, getD0, getD1, getD2, getD3, getD4, getD5, getD6, getD7, getD8, getD9, getD10, getD11, getD12, getD13, getD14, getD15, getD16, getD17, getD18, getD19, Bool.not_true, Bool.not_false, Bool.false_eq_true, Bool.true_eq_false, ↓reduceIte, decide_true, decide_false, Option.isNone_some, Option.isNone_none, Option.isSome_some, Option.isSome_none, beq_self_eq_true, bne_self_eq_false, Bool.and_true, Bool.true_and, Bool.and_false, Bool.false_and, not_true_eq_false, not_false_eq_true]
          · simp only [if_true]
            rw [tks, hls, List.append_assoc]
            show (es.take k ++ ([f] ++ [es[k]])).Perm ([f] ++ (es.take k ++ [es[k]]))
            rw [← List.append_assoc, ← List.append_assoc]
            exact List.Perm.append_right _ List.perm_append_comm
        · have hb' : (!((Op.bytesLess es[k].name.toList f.name.toList) || (es[k].name.toList == f.name.toList))) = false := by simpa using hb
          obtain ⟨l', x', e, hB'⟩ := hD.add (by omega) es[k]
          have tn1 := tn hD
          refine ⟨(l', false, ((k + 1 : Nat) : Int)), x', ?_, l', false, rfl, _, hB', ?_⟩
          · unfold g39_l1_b
            simp only [cx, k0, cd, hi, c0, tn1, hb', hld, e, kw, obs, asP_pointer, asB_bool, asI_int, asS_string, asSl_slice, asM_map, asTup0, asTup1, asTup2, asTup3, asTup4, asTup5, asTup6, asTup7, asTup8, asTup9, asAgg2, asAgg3, asAgg4, asAgg5, asAgg6, asAgg7, asAgg8, asAgg9, asAgg12, getD0, getD1, getD2, getD3, getD4, getD5, getD6, getD7, getD8, getD9, getD10, getD11, getD12, getD13, getD14, getD15, getD16, getD17, getD18, getD19, Bool.not_true, Bool.not_false, Bool.false_eq_true, Bool.true_eq_false, ↓reduceIte, decide_true, decide_false, Option.isNone_some, Option.isNone_none, Option.isSome_some, Option.isSome_none, beq_self_eq_true, bne_self_eq_false, Bool.and_true, Bool.true_and, Bool.and_false, Bool.false_and, not_true_eq_false, not_false_eq_true]
          · simp only [Bool.false_eq_true, if_false]
            rw [tks, hls])
    (fun s x ⟨l, laid, hs, ls, hB, hls⟩ => by
      subst hs
      have k0 : decide ((es.length : Int) < (qf.2.1 : Int)) = false := by simp; omega
      have cx := rc hB.fr
      unfold g39_l1_b
      simp only [cx, k0, obs, asP_pointer, asB_bool, asI_int, asS_string, asSl_slice, asM_map, asTup0, asTup1, asTup2, asTup3, asTup4, asTup5, asTup6, asTup7, asTup8, asTup9, asAgg2, asAgg3, asAgg4, asAgg5, asAgg6, asAgg7, asAgg8, asAgg9, asAgg12, getD0, getD1, getD2, getD3, getD4, getD5, getD6, getD7, getD8, getD9, getD10, getD11, getD12, getD13, getD14, getD15, getD16, getD17, getD18, getD19, Bool.not_true, Bool.not_false, Bool.false_eq_true, Bool.true_eq_false, ↓reduceIte, decide_true, decide_false, Option.isNone_some, Option.isNone_none, Option.isSome_some, Option.isSome_none, beq_self_eq_true, bne_self_eq_false, Bool.and_true, Bool.true_and, Bool.and_false, Bool.false_and, not_true_eq_false, not_false_eq_true])
    (k := 0) (s := ((none, 0, 0), false, 0)) (w := w1) (Nat.zero_le _) ⟨_, _, rfl, [], ⟨Own.nil w1 53 3, fa, by simp [blkOf], ba⟩, rfl⟩
  subst ht
  rw [List.take_length] at hls
  -- the row is laid
  have fin : ∀ {x : World} {q : ShS} {es' : List RE}, PB w x f q es' → es'.Perm (f :: es) → ∃ w', g39_j58 (some ⟨b, 0, none⟩) q x = some (.tuple #[], w') ∧ RD w' (fun y => E y ∨ w.heap.size ≤ y ∧ y < w'.heap.size) b q es' fuse dead ∧ Fr [b] w w' := by
    intro x q es' hB hp
    have s := (h.fr hB.fr (by simp)).blk.st1 (i := 0) (v := .slice q.1 q.2.1 q.2.2) (by simp) rfl
    have z := hB.fr.size
    obtain ⟨hR, hF⟩ := h.row hB.fr hB.own (fun y hy => by have := hB.new y hy; omega) (fun g hg => by
      have hok : REok w E g := by
        rcases List.mem_cons.mp (hp.mem_iff.mp hg) with rfl | hm
        · exact hf
        · exact h.ok g hm
      exact hok.fr hB.fr (by simp) (fun y hy => .inl hy)) ((hp.pairwise_iff (fun {a b} => Dis.symm)).mpr (List.pairwise_cons.mpr ⟨hd, h.ap⟩)) (by
      have : used (es'.map RE.ab) = used ((f :: es).map RE.ab) := used_perm (hp.map RE.ab)
      omega) (by have := hp.length_eq; simp at this; omega) s
    refine ⟨_, ?_, hR, hF⟩
    unfold g39_j58
    simp only [s, obs, asP_pointer, asB_bool, asI_int, asS_string, asSl_slice, asM_map, asTup0, asTup1, asTup2, asTup3, asTup4, asTup5, asTup6, asTup7, asTup8, asTup9, asAgg2, asAgg3, asAgg4, asAgg5, asAgg6, asAgg7, asAgg8, asAgg9, asAgg12, getD0, getD1, getD2, getD3, getD4, getD5, getD6, getD7, getD8, getD9, getD10, getD11, getD12, getD13, getD14, getD15, getD16, getD17, getD18, getD19, Bool.not_true, Bool.not_false, Bool.false_eq_true, Bool.true_eq_false, ↓reduceIte, decide_true, decide_false, Option.isNone_some, Option.isNone_none, Option.isSome_some, Option.isSome_none, beq_self_eq_true, bne_self_eq_false, Bool.and_true, Bool.true_and, Bool.and_false, Bool.false_and, not_true_eq_false, not_false_eq_true]
  cases laid with
  | true =>
    simp only [if_true] at hls
    obtain ⟨w3, e3, hR, hF⟩ := fin hB hls
    refine ⟨l, w3, ls, g39_call ?_, hls, hR, hF⟩
    unfold g39
    rw [hw1, g39_l1_x0_of g2]
    unfold g39_l1_x0
    simp only [obs, asP_pointer, asB_bool, asI_int, asS_string, asSl_slice, asM_map, asTup0, asTup1, asTup2, asTup3, asTup4, asTup5, asTup6, asTup7, asTup8, asTup9, asAgg2, asAgg3, asAgg4, asAgg5, asAgg6, asAgg7, asAgg8, asAgg9, asAgg12, getD0, getD1, getD2, getD3, getD4, getD5, getD6, getD7, getD8, getD9, getD10, getD11, getD12, getD13, getD14, getD15, getD16, getD17, getD18, getD19, Bool.not_true, Bool.not_false, Bool.false_eq_true, Bool.true_eq_false, ↓reduceIte, decide_true, decide_false, Option.isNone_some, Option.isNone_none, Option.isSome_some, Option.isSome_none, beq_self_eq_true, bne_self_eq_false, Bool.and_true, Bool.true_and, Bool.and_false, Bool.false_and, not_true_eq_false, not_false_eq_true]
    exact e3
  | false =>
    simp only [Bool.false_eq_true, if_false] at hls
    have e1 := tl hB
    obtain ⟨l2, x2, e2, hB2⟩ := hB.add (by rw [hls]; omega) f
    have hp : (ls ++ [f]).Perm (f :: es) := by rw [hls]; exact List.perm_append_comm
    obtain ⟨w3, e3, hR, hF⟩ := fin hB2 hp
    refine ⟨l2, w3, ls ++ [f], g39_call ?_, hp, hR, hF⟩
    unfold g39
    rw [hw1, g39_l1_x0_of g2]
    unfold g39_l1_x0
    simp only [e1, e2, obs, asP_pointer, asB_bool, asI_int, asS_string, asSl_slice, asM_map, asTup0, asTup1, asTup2, asTup3, asTup4, asTup5, asTup6, asTup7, asTup8, asTup9, asAgg2, asAgg3, asAgg4, asAgg5, asAgg6, asAgg7, asAgg8, asAgg9, asAgg12, getD0, getD1, getD2, getD3, getD4, getD5, getD6, getD7, getD8, getD9, getD10, getD11, getD12, getD13, getD14, getD15, getD16, getD17, getD18, getD19, Bool.not_true, Bool.not_false, Bool.false_eq_true, Bool.true_eq_false, ↓reduceIte, decide_true, decide_false, Option.isNone_some, Option.isNone_none, Option.isSome_some, Option.isSome_none, beq_self_eq_true, bne_self_eq_false, Bool.and_true, Bool.true_and, Bool.and_false, Bool.false_and, not_true_eq_false, not_false_eq_true]
    exact e3

theorem reCs_take (l : List RE) (i : Nat) : (reCs l).take (i * 3) = reCs (l.take i) := by
  induction l generalizing i with
  | nil => simp [reCs]
  | cons e l ih =>
    have e1 : reCs (e :: l) = e.cs ++ reCs l := by unfold reCs; simp
    cases i with
    | zero => simp [reCs]
    | succ i =>
      have h3 : e.cs.length = 3 := rfl
      rw [e1, List.take_append, h3, List.take_of_length_le (by rw [h3]; omega)]
      have : (i + 1) * 3 - 3 = i * 3 := by omega
      rw [this, ih i]
      unfold reCs; simp
theorem reCs_drop (l : List RE) (i : Nat) : (reCs l).drop (i * 3) = reCs (l.drop i) := by
  induction l generalizing i with
  | nil => simp [reCs]
  | cons e l ih =>
    have e1 : reCs (e :: l) = e.cs ++ reCs l := by unfold reCs; simp
    cases i with
    | zero => simp [e1]
    | succ i =>
      have h3 : e.cs.length = 3 := rfl
      rw [e1, List.drop_append, h3, List.drop_of_length_le (by rw [h3]; omega)]
      have : (i + 1) * 3 - 3 = i * 3 := by omega
      rw [this, ih i]
      simp
theorem reCs_oc (l : List RE) : ∀ u ∈ reCs l, u.oneCell' = true := by
  intro u hu
  obtain ⟨y, hy, hu⟩ := List.mem_flatten.mp hu
  obtain ⟨f, _, rfl⟩ := List.mem_map.mp hy
  exact recs_oc f u hu

theorem newRE (x : World) (f : RE) : ∃ x', stL (x.alloc (.cells #[.string (⟨#[]⟩ : ByteArray), .slice none 0 0, .int .i64 0] 53)) ⟨x.heap.size, 0, none⟩ [.string f.name, .slice f.q.1 f.q.2.1 f.q.2.2, .int .i64 (f.syn : Int)] 0 = some x' ∧
    Blk x' x.heap.size f.cs 53 ∧ Fr [] x x' := by
  have b : Blk (x.alloc (.cells #[.string (⟨#[]⟩ : ByteArray), .slice none 0 0, .int .i64 0] 53)) x.heap.size [.string (⟨#[]⟩ : ByteArray), .slice none 0 0, .int .i64 0] 53 := Blk.new x _ 53
  have f0 : Fr [] x (x.alloc (.cells #[.string (⟨#[]⟩ : ByteArray), .slice none 0 0, .int .i64 0] 53)) := Fr.alloc _
  obtain ⟨x', h1, h2, h3⟩ := b.stL (vs := f.cs) rfl (recs_oc f)
  exact ⟨x', h1, h2, (f0.app h3).mono (by intro y hy hl; simp at hy; omega)⟩

theorem take41 (h : RD w E b qf es fuse dead) {i : Nat} (hi : i < es.length) :
    ∃ (qn : ShS) (w' : World), callF Try.prog 41 #[.pointer (some ⟨b, 0, none⟩), .int .i64 (i : Int)] w = some (.agg #[.string es[i].name, .slice es[i].q.1 es[i].q.2.1 es[i].q.2.2, .int .i64 (es[i].syn : Int)], w') ∧
      RD w' (fun y => E y ∨ w.heap.size ≤ y ∧ y < w'.heap.size) b qn (es.take i ++ es.drop (i + 1)) fuse dead ∧ Fr [b] w w' := by
  have hml : maxLen = 9223372036854775807 := by decide
  have hfl := h.flen
  have hle := h.le
  have f0 : Fr [] w (w.alloc (.cells #[.string (⟨#[]⟩ : ByteArray), .slice none 0 0, .int .i64 0] 53)) := Fr.alloc _
  have b0 : Blk (w.alloc (.cells #[.string (⟨#[]⟩ : ByteArray), .slice none 0 0, .int .i64 0] 53)) w.heap.size [.string (⟨#[]⟩ : ByteArray), .slice none 0 0, .int .i64 0] 53 := Blk.new w _ 53
  obtain ⟨w0, hw0⟩ : ∃ w0, w.alloc (.cells #[.string (⟨#[]⟩ : ByteArray), .slice none 0 0, .int .i64 0] 53) = w0 := ⟨_, rfl⟩
  rw [hw0] at f0 b0
  have h0 := h.fr f0 (by simp)
  obtain ⟨g, off, ha, hix, hld, _, _⟩ := re_at h0.own hi
  simp only [RE.cs] at hld
  obtain ⟨w1, s1, b1, f1⟩ := newRE w0 es[i]
  have F1 : Fr [] w w1 := (Fr.mono (Fr.app f0 f1) (by have z0_ := Fr.size f0; have z1_ := Fr.size f1; intro y_ hy_ hl_; grind [blkOf]))
  have h1 := h0.fr f1 (by simp)
  have hcap := h1.own.le
  -- the two pieces
  have sA : SlC w1 3 (if qf.2.2 = 0 then qf.1 else qf.1.map (·.add (0 * 3)), i - 0, qf.2.2 - 0) (reCs (es.take i)) := by
    have := (h1.own.slC).cut (i := 0) (j := i) (Nat.zero_le _) (by omega) hcap
    rw [← reCs_take]
    simpa using this
  obtain ⟨qA, w2, e2, o2, f2, n2, _⟩ := app_nil t49 sA (reCs_oc _) (by simp only; omega) (by simp only; omega) 49 #[false, false]
  have z1 := F1.size
  have F2 : Fr [] w w2 := (Fr.mono (Fr.app F1 f2) (by have z0_ := Fr.size F1; have z1_ := Fr.size f2; intro y_ hy_ hl_; grind [blkOf]))
  have h2 := h1.fr f2 (by simp)
  have lB : reCs (es.drop (i + 1)) = ((reCs es).drop ((i + 1) * 3)).take ((qf.2.1 - (i + 1)) * 3) := by
    rw [reCs_drop, List.take_of_length_le]
    rw [reCs_len, List.length_drop]; omega
  have sB : SlC w2 3 (if qf.2.2 = i + 1 then qf.1 else qf.1.map (·.add ((i + 1) * 3)), qf.2.1 - (i + 1), qf.2.2 - (i + 1)) (reCs (es.drop (i + 1))) := by
    have := (h2.own.slC).cut (i := i + 1) (j := qf.2.1) (by omega) (Nat.le_refl _) hcap
    rw [lB]; exact this
  have oAl := o2.len
  rw [reCs_len, List.length_take] at oAl
  obtain ⟨qB, w3, e3, o3, f3, n3, _⟩ := app_sl t49 o2 sB (reCs_oc _) (by simp only; omega) (by simp only; omega) 49 #[false, false]
  have z2 := F2.size
  have F3 : Fr [] w w3 := (F2.app f3).mono (by intro y hy hlt; simp at hy; have := n2 y hy; omega)
  have h3 := h.fr F3 (by simp)
  rw [← reCs_app] at o3
  have nB : ∀ y ∈ blkOf qB, w.heap.size ≤ y := fun y hy => by
    rcases n3 y hy with hh | hh
    · have := n2 y hh; omega
    · omega
  have hsub : (es.take i ++ es.drop (i + 1)).Sublist es := by
    have e : es = es.take i ++ es.drop i := (List.take_append_drop i es).symm
    conv => rhs; rw [e]
    exact List.Sublist.append_left (List.drop_sublist_drop_left es (by omega)) _
  have s4 := h3.blk.st1 (i := 0) (v := .slice qB.1 qB.2.1 qB.2.2) (by simp) rfl
  obtain ⟨w4, hw4⟩ : ∃ w4, w3.setCell ⟨b, 0, none⟩ (.slice qB.1 qB.2.1 qB.2.2) = w4 := ⟨_, rfl⟩
  rw [hw4] at s4
  have hus : used ((es.take i ++ es.drop (i + 1)).map RE.ab) ≤ 4194304 := by
    have hu := h.us
    have e : used (es.map RE.ab) = used ((es.take i).map RE.ab) + used ((es.drop i).map RE.ab) := by
      rw [← used_app, ← List.map_append, List.take_append_drop]
    have e2 : used ((es.drop i).map RE.ab) = es[i].data.length + used ((es.drop (i + 1)).map RE.ab) := by
      rw [List.drop_eq_getElem_cons hi, List.map_cons]
      unfold used
      rw [List.map_cons, List.sum_cons]
      rfl
    rw [List.map_append, used_app]; omega
  obtain ⟨hR, hF⟩ := h.row F3 o3 nB (fun f hf => (h.ok f (hsub.subset hf)).fr F3 (by simp) (fun y hy => .inl hy)) (h.ap.sublist hsub) hus (by have := hsub.length_le; omega) s4
  -- the temporary copies
  have b1' : Blk w3 w0.heap.size es[i].cs 53 := (b1.fr f2 (by simp)).fr f3 (fun hm => by have := n2 _ hm; have := b1.lt; omega)
  have fs : Fr [b] w3 w4 := by rw [← hw4]; exact Fr.setCell
  have hbE := h.lt b h.eb
  have z0 := f0.size
  have b1'' := b1'.fr fs (by simp; omega)
  have l24 : ldN w4 ⟨w0.heap.size, 0, none⟩ 0 3 = some [.string es[i].name, .slice es[i].q.1 es[i].q.2.1 es[i].q.2.2, .int .i64 (es[i].syn : Int)] := b1''.ldN (n := 3) rfl
  have b0' : Blk w4 w.heap.size [.string (⟨#[]⟩ : ByteArray), .slice none 0 0, .int .i64 0] 53 := ((((b0.fr f1 (by simp)).fr f2 (by simp)).fr f3 (fun hm => by have := n2 _ hm; have := b0.lt; have := f1.size; omega))).fr fs (by simp; omega)
  obtain ⟨w5, s5, b5, f5⟩ := b0'.stL (vs := es[i].cs) rfl (recs_oc _)
  have l29 : ldN w5 ⟨w.heap.size, 0, none⟩ 0 3 = some [.string es[i].name, .slice es[i].q.1 es[i].q.2.1 es[i].q.2.2, .int .i64 (es[i].syn : Int)] := b5.ldN (n := 3) rfl
  have hnq : w.heap.size ∉ blkOf qB := fun hm => by
    have hb3 := b0'
    rcases n3 _ hm with hh | hh
    · have := n2 _ hh; have := b0.lt; have := f1.size; omega
    · have := b0.lt; have := f1.size; have := f2.size; omega
  have z5 := f5.size
  have hR5 : RD w5 (fun y => E y ∨ w.heap.size ≤ y ∧ y < w5.heap.size) b qB (es.take i ++ es.drop (i + 1)) fuse dead := by
    refine ⟨hR.blk.fr f5 (by simp; omega), hR.own.fr f5 (by intro y hy hm; simp at hm; subst hm; exact hnq hy), fun f hf => ?_, hR.ap, .inl h.eb, fun y hy => ?_, fun y hy => ?_, hR.us, hR.le⟩
    · have okf := h.ok f (hsub.subset hf)
      exact (hR.ok f hf).fr f5 (fun y hy hm => by simp at hm; subst hm; have := h.lt _ (okf.reg _ hy); omega) (fun y hy => by rcases hy with hy | hy; exact .inl hy; exact .inr ⟨hy.1, by omega⟩)
    · rcases hR.rq y hy with hy' | hy'
      · exact .inl hy'
      · exact .inr ⟨hy'.1, by omega⟩
    · rcases hy with hy | hy
      · have := h.lt y hy; have := hF.size; omega
      · exact hy.2
  refine ⟨qB, w5, g41_call ?_, hR5, (hF.app f5).mono (by intro y hy hlt; simp at hy ⊢; omega)⟩
  have hkw := wrap_succ (n := i) (by omega)
  have c0 := h0.c0
  have c1 := h1.c0
  have c2 := h2.c0
  have eA := slc_to (u := qf) (n := 3) (j := i) (by omega)
  have eB := slc_from (u := qf) (n := 3) (i := i + 1) (by omega) hcap
  simp only [RE.cs] at s5
  unfold g41
  simp only [hw0, c0, hix, hld, s1, c1, eA, e2, c2, hkw, eB, e3, s4, l24, s5, l29, obs, asP_pointer, asB_bool, asI_int, asS_string, asSl_slice, asM_map, asTup0, asTup1, asTup2, asTup3, asTup4, asTup5, asTup6, asTup7, asTup8, asTup9, asAgg2, asAgg3, asAgg4, asAgg5, asAgg6, asAgg7, asAgg8, asAgg9, asAgg12, getD0, getD1, getD2, getD3, getD4, getD5, getD6, getD7, getD8, getD9, getD10, getD11, getD12, getD13, getD14, getD15, getD16, getD17, getD18, getD19, Bool.not_true, Bool.not_false, Bool.false_eq_true, Bool.true_eq_false, ↓reduceIte, decide_true, decide_false, Option.isNone_some, Option.isNone_none, Option.isSome_some, Option.isSome_none, beq_self_eq_true, bne_self_eq_false, Bool.and_true, Bool.true_and, Bool.and_false, Bool.false_and, not_true_eq_false, not_false_eq_true]
end
end Go.Proofs.Ytkmidlhnlnolnaa
