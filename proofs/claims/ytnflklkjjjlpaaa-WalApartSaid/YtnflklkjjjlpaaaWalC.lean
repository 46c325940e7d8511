/-
  WalC: lemmas on what Go functions of this seat come to (for whatever arguments, as each says). No condition but those that stand in each lemma.
-/
import Derived.Test.YtnflklkjjjlpaaaWalB
namespace Go.Proofs.Ytnflklkjjjlpaaa
open Go Go.Ev Go.Crc
set_option maxRecDepth 100000
set_option linter.unusedVariables false
set_option linter.unusedSimpArgs false

/-- a disk and a log upon it -/
structure WS (w : World) (D : Nat → Prop) (b : Nat) (A : List (ByteArray × FV)) (fuse : Int) (dead : Bool) (wb fb tb : Nat) (name : ByteArray) (count : Int) : Prop where
  dk : Dk w D b A fuse dead
  wl : Wl w wb fb tb b name count
  ap : ∀ y, Xw wb fb tb y → ¬ D y

/-- what a log on a disk did -/
structure Did (D : Nat → Prop) (wb fb tb : Nat) (w w' : World) (D' : Nat → Prop) : Prop where
  fr : ∃ S, Fr S w w' ∧ ∀ y ∈ S, D y ∨ Xw wb fb tb y
  up : ∀ y, D y → D' y
  new : ∀ y, D' y → D y ∨ w.heap.size ≤ y

theorem Did.of_chg {D D' : Nat → Prop} {wb fb tb : Nat} {w w' : World} (c : Chg D w w' D') : Did D wb fb tb w w' D' :=
  ⟨let ⟨S, f, h⟩ := c.fr; ⟨S, f, fun y hy => .inl (h y hy)⟩, c.up, c.new⟩
theorem Did.of_fr {D : Nat → Prop} {wb fb tb : Nat} {w w' : World} {S : List Nat} (f : Fr S w w') (hS : ∀ y ∈ S, Xw wb fb tb y) : Did D wb fb tb w w' D :=
  ⟨⟨S, f, fun y hy => .inr (hS y hy)⟩, fun _ => id, fun _ => .inl⟩
theorem Did.trans {D D' D'' : Nat → Prop} {wb fb tb : Nat} {w w' w'' : World} (h : Did D wb fb tb w w' D') (h' : Did D' wb fb tb w' w'' D'') : Did D wb fb tb w w'' D'' := by
  obtain ⟨S, f, hS⟩ := h.fr
  obtain ⟨S', f', hS'⟩ := h'.fr
  have h1 := h.up
  have h2 := h'.up
  have h3 := h.new
  have h4 := h'.new
  have hsz := f.size
  refine ⟨⟨(S ++ S').filter (· < w.heap.size), (f.app f').mono (by intro y hy hl; simp only [List.mem_filter, decide_eq_true_eq]; exact ⟨hy, hl⟩), ?_⟩, fun y hy => h2 y (h1 y hy), fun y hy => ?_⟩
  · intro y hy
    simp only [List.mem_filter, List.mem_append, decide_eq_true_eq] at hy
    rcases hy.1 with hh | hh
    · exact hS y hh
    · rcases hS' y hh with hk | hk
      · rcases h3 y hk with hj | hj
        · exact .inl hj
        · omega
      · exact .inr hk
  · rcases h4 y hy with hh | hh
    · exact h3 y hh
    · right; omega
theorem Did.size {D D' : Nat → Prop} {wb fb tb : Nat} {w w' : World} (h : Did D wb fb tb w w' D') : w.heap.size ≤ w'.heap.size := let ⟨_, f, _⟩ := h.fr; f.size

section
variable {w : World} {D : Nat → Prop} {b : Nat} {A : List (ByteArray × FV)} {fuse : Int} {dead : Bool} {wb fb tb : Nat} {name : ByteArray} {count : Int}

theorem WS.step (h : WS w D b A fuse dead wb fb tb name count) {w' : World} {D' : Nat → Prop} {A' : List (ByteArray × FV)} {fuse' : Int} {dead' : Bool} (d : Dk w' D' b A' fuse' dead') (c : Chg D w w' D') : WS w' D' b A' fuse' dead' wb fb tb name count := by
  obtain ⟨S, f, hS⟩ := c.fr
  refine ⟨d, h.wl.fr f (fun y hy hx => h.ap y hx (hS y hy)), fun y hy hd => ?_⟩
  rcases c.new y hd with hh | hh
  · exact h.ap y hy hh
  · have := h.wl.lt y hy; omega
theorem WS.fr {S : List Nat} {w' : World} (h : WS w D b A fuse dead wb fb tb name count) (f : Fr S w w') (hS : ∀ y ∈ S, y < w.heap.size → ¬ D y ∧ ¬ Xw wb fb tb y) : WS w' D b A fuse dead wb fb tb name count :=
  ⟨h.dk.fr f (fun y hy hl => (hS y hy hl).1), h.wl.fr (fr_old f) (fun y hy => by simp at hy; exact (hS y hy.1 hy.2).2), h.ap⟩

theorem wsync (h : WS w D b A fuse dead wb fb tb name count) :
    ∃ w', callF Try.prog 23 #[.pointer (some ⟨wb, 0, none⟩)] w = some (.int .i64 (syncA A dead name).1, w') ∧ WS w' D b (syncA A dead name).2 fuse dead wb fb tb name count ∧ Did D wb fb tb w w' D := by
  obtain ⟨w', e, d, wl, c⟩ := sync23 h.dk h.wl h.ap
  exact ⟨w', e, ⟨d, wl, h.ap⟩, Did.of_chg c⟩

theorem wapp {count : Nat} (h : WS w D b A fuse dead wb fb tb name (count : Int)) {u : Option Addr × Nat × Nat} {p : List Int} (hu : Sl8 w u p) (hz : Zs p) (hd : 0 < p.length → tb ∉ blkOf u) (hc : (count : Int) < 9223372036854775807) :
    ∃ w' D', callF Try.prog 14 #[.pointer (some ⟨wb, 0, none⟩), .slice u.1 u.2.1 u.2.2] w = some (.int .i64 (wappA A fuse dead name p).1, w') ∧
      WS w' D' b (wappA A fuse dead name p).2.1 (wappA A fuse dead name p).2.2.1 (wappA A fuse dead name p).2.2.2 wb fb tb name ((if (wappA A fuse dead name p).1 = 0 then count + 1 else count : Nat) : Int) ∧ Did D wb fb tb w w' D' := by
  obtain ⟨w', D', e, d, wl, hX, c, up, new⟩ := append14 h.dk h.wl h.ap hu hz hd hc
  exact ⟨w', D', e, ⟨d, wl, hX⟩, ⟨c.fr, up, new⟩⟩

theorem wrew (h : WS w D b A fuse dead wb fb tb name count) {v : Option Addr × Nat × Nat} {ps : List (List Int)} {B : Nat → Prop} (hL : Lst .u8 w B v ps) (hB : ∀ y, B y → y ≠ tb) (hB2 : ∀ y, B y → y < w.heap.size)
    (hz : ∀ p ∈ ps, Zs p) (hl : (encs ps).length ≤ 268435456) (hn : ps.length ≤ 268435456) (hname : name.size ≤ 24) :
    ∃ w' D', callF Try.prog 24 #[.pointer (some ⟨wb, 0, none⟩), .slice v.1 v.2.1 v.2.2] w = some (.int .i64 (rewA A fuse dead name ps).1, w') ∧
      WS w' D' b (rewA A fuse dead name ps).2.1 (rewA A fuse dead name ps).2.2.1 (rewA A fuse dead name ps).2.2.2 wb fb tb name (if (rewA A fuse dead name ps).1 = 0 then (ps.length : Int) else count) ∧ Did D wb fb tb w w' D' := by
  have hlen := hL.len
  obtain ⟨w1, q, m, e1, wl1, f1, hq, ho⟩ := rew_loop h.wl hL hB hB2 hz hl hn
  have d1 := h.dk.fr f1 (by intro y hy _; simp at hy; subst hy; exact h.ap _ (.inr (.inr rfl)))
  have s1 : WS w1 D b A fuse dead wb fb tb name count := ⟨d1, wl1, h.ap⟩
  have D1 : Did D wb fb tb w w1 D := Did.of_fr f1 (by intro y hy; simp at hy; subst hy; exact .inr (.inr rfl))
  have hltD := h.dk.lt
  have z1 := f1.size
  by_cases hlong : longP ps = true
  · have er : rewA A fuse dead name ps = (2, A, fuse, dead) := by unfold rewA; rw [if_pos hlong]
    rw [if_pos hlong, if_pos hlong] at e1
    rw [er]
    refine ⟨w1, D, g24_call ?_, s1, D1⟩
    unfold g24
    simp only [g24_l2_ret_of e1, g24_l2_ret, Option.bind_some, asP_pointer, asB_bool, asI_int, asS_string, asSl_slice, asM_map, asTup0, asTup1, asTup2, asTup3, asTup4, asTup5, getD0, getD1, getD2, getD3, getD4, Bool.not_true, Bool.not_false, Bool.false_eq_true, Bool.true_eq_false, ↓reduceIte, decide_true, decide_false, Option.isNone_some, Option.isNone_none, Option.isSome_some, Option.isSome_none, beq_self_eq_true, bne_self_eq_false, Bool.and_true, Bool.true_and, Bool.and_false, Bool.false_and, not_true_eq_false, not_false_eq_true]
  · have hlong' : longP ps = false := by simpa using hlong
    rw [if_neg hlong, if_neg hlong] at e1
    have ho := ho hlong'
    have c1 : w1.cell? ⟨wb, 1, none⟩ = some (.string name) := wl1.blk.cell 1
    have c0 : w1.cell? ⟨wb, 0, none⟩ = some (.pointer (some ⟨b, 0, none⟩)) := wl1.blk.cell 0
    have hmx : IntKind.i64.max = 9223372036854775807 := by decide
    have hsz : ¬ ((name.size + (⟨#[126]⟩ : ByteArray).size : Nat) : Int) > IntKind.i64.max := by
      have : (⟨#[126]⟩ : ByteArray).size = 1 := rfl
      rw [hmx, this]; omega
    obtain ⟨w2, e2, d2, g2⟩ := remove24 d1 (nextN name)
    have s2 := s1.step d2 g2
    have D2 := D1.trans (Did.of_chg g2)
    by_cases hrm : (removeA A dead (nextN name)).1 ≠ 0 ∧ (removeA A dead (nextN name)).1 ≠ 4
    · have er : rewA A fuse dead name ps = ((removeA A dead (nextN name)).1, (removeA A dead (nextN name)).2, fuse, dead) := by unfold rewA; rw [if_neg hlong, if_pos hrm]
      rw [er]
      refine ⟨w2, D, g24_call ?_, by rw [if_neg hrm.1]; exact s2, D2⟩
      have h1 : ((removeA A dead (nextN name)).1 != 0) = true := by simpa using hrm.1
      have h2 : ((removeA A dead (nextN name)).1 != 4) = true := by simpa using hrm.2
      have e2' : callF Try.prog 39 #[.pointer (some ⟨b, 0, none⟩), .string (name ++ (⟨#[126]⟩ : ByteArray))] w1 = some (.int .i64 (removeA A dead (nextN name)).1, w2) := e2
      unfold g24
      simp only [g24_l2_x0_of e1, Option.bind_some, asP_pointer, asB_bool, asI_int, asS_string, asSl_slice, asM_map, asTup0, asTup1, asTup2, asTup3, asTup4, asTup5, getD0, getD1, getD2, getD3, getD4, Bool.not_true, Bool.not_false, Bool.false_eq_true, Bool.true_eq_false, ↓reduceIte, decide_true, decide_false, Option.isNone_some, Option.isNone_none, Option.isSome_some, Option.isSome_none, beq_self_eq_true, bne_self_eq_false, Bool.and_true, Bool.true_and, Bool.and_false, Bool.false_and, not_true_eq_false, not_false_eq_true]
      unfold g24_l2_x0
      simp only [addr_add, Nat.zero_add, c1, hsz, c0, e2', h1, h2, Option.bind_some, asP_pointer, asB_bool, asI_int, asS_string, asSl_slice, asM_map, asTup0, asTup1, asTup2, asTup3, asTup4, asTup5, getD0, getD1, getD2, getD3, getD4, Bool.not_true, Bool.not_false, Bool.false_eq_true, Bool.true_eq_false, ↓reduceIte, decide_true, decide_false, Option.isNone_some, Option.isNone_none, Option.isSome_some, Option.isSome_none, beq_self_eq_true, bne_self_eq_false, Bool.and_true, Bool.true_and, Bool.and_false, Bool.false_and, not_true_eq_false, not_false_eq_true]
    · have o2 : Own w2 5 1 q ((encs ps).map (Value.int .u8)) := by
        obtain ⟨S, f, hS⟩ := g2.fr
        exact ho.fr f (by intro y hy hm; have := hq y hy; have := hltD y (hS y hm); omega)
      obtain ⟨w3, D3, e3, d3, g3⟩ := append10 d2 (nextN name) o2.slI (encs_zs hz) o2.le (fun _ y hy hm => by have := hq y hy; have := hltD y hm; omega) (by omega)
      have s3 := s2.step d3 g3
      have DD3 := D2.trans (Did.of_chg g3)
      have b0 : w2.cell? ⟨wb, 0, none⟩ = some (.pointer (some ⟨b, 0, none⟩)) := s2.wl.blk.cell 0
      have e2' : callF Try.prog 39 #[.pointer (some ⟨b, 0, none⟩), .string (name ++ (⟨#[126]⟩ : ByteArray))] w1 = some (.int .i64 (removeA A dead (nextN name)).1, w2) := e2
      have e3' : callF Try.prog 19 #[.pointer (some ⟨b, 0, none⟩), .string (name ++ (⟨#[126]⟩ : ByteArray)), .slice q.1 q.2.1 q.2.2] w2 = some (.int .i64 (appA (removeA A dead (nextN name)).2 fuse dead (nextN name) (encs ps)).1, w3) := e3
      have hbr : ((removeA A dead (nextN name)).1 != 0) = false ∨ ((removeA A dead (nextN name)).1 != 0) = true ∧ ((removeA A dead (nextN name)).1 != 4) = false := by
        rcases Classical.em ((removeA A dead (nextN name)).1 = 0) with h0 | h0
        · left; simp [h0]
        · right
          have h4 : (removeA A dead (nextN name)).1 = 4 := by
            rcases Classical.em ((removeA A dead (nextN name)).1 = 4) with h4 | h4
            · exact h4
            · exact absurd ⟨h0, h4⟩ hrm
          exact ⟨by simpa using h0, by simp [h4]⟩
      by_cases hap : (appA (removeA A dead (nextN name)).2 fuse dead (nextN name) (encs ps)).1 ≠ 0
      · have er : rewA A fuse dead name ps = appA (removeA A dead (nextN name)).2 fuse dead (nextN name) (encs ps) := by
          unfold rewA; rw [if_neg hlong, if_neg hrm]; simp only; rw [if_pos hap]
        rw [er]
        refine ⟨w3, D3, g24_call ?_, by rw [if_neg hap]; exact s3, DD3⟩
        have h3 : ((appA (removeA A dead (nextN name)).2 fuse dead (nextN name) (encs ps)).1 != 0) = true := by simpa using hap
        unfold g24
        simp only [g24_l2_x0_of e1, Option.bind_some, asP_pointer, asB_bool, asI_int, asS_string, asSl_slice, asM_map, asTup0, asTup1, asTup2, asTup3, asTup4, asTup5, getD0, getD1, getD2, getD3, getD4, Bool.not_true, Bool.not_false, Bool.false_eq_true, Bool.true_eq_false, ↓reduceIte, decide_true, decide_false, Option.isNone_some, Option.isNone_none, Option.isSome_some, Option.isSome_none, beq_self_eq_true, bne_self_eq_false, Bool.and_true, Bool.true_and, Bool.and_false, Bool.false_and, not_true_eq_false, not_false_eq_true]
        unfold g24_l2_x0
        rcases hbr with h1 | ⟨h1, h2⟩
        · simp only [addr_add, Nat.zero_add, c1, hsz, c0, e2', h1, b0, e3', h3, Option.bind_some, asP_pointer, asB_bool, asI_int, asS_string, asSl_slice, asM_map, asTup0, asTup1, asTup2, asTup3, asTup4, asTup5, getD0, getD1, getD2, getD3, getD4, Bool.not_true, Bool.not_false, Bool.false_eq_true, Bool.true_eq_false, ↓reduceIte, decide_true, decide_false, Option.isNone_some, Option.isNone_none, Option.isSome_some, Option.isSome_none, beq_self_eq_true, bne_self_eq_false, Bool.and_true, Bool.true_and, Bool.and_false, Bool.false_and, not_true_eq_false, not_false_eq_true]
        · simp only [addr_add, Nat.zero_add, c1, hsz, c0, e2', h1, h2, b0, e3', h3, Option.bind_some, asP_pointer, asB_bool, asI_int, asS_string, asSl_slice, asM_map, asTup0, asTup1, asTup2, asTup3, asTup4, asTup5, getD0, getD1, getD2, getD3, getD4, Bool.not_true, Bool.not_false, Bool.false_eq_true, Bool.true_eq_false, ↓reduceIte, decide_true, decide_false, Option.isNone_some, Option.isNone_none, Option.isSome_some, Option.isSome_none, beq_self_eq_true, bne_self_eq_false, Bool.and_true, Bool.true_and, Bool.and_false, Bool.false_and, not_true_eq_false, not_false_eq_true]
      · have h3 : ((appA (removeA A dead (nextN name)).2 fuse dead (nextN name) (encs ps)).1 != 0) = false := by simpa using hap
        obtain ⟨r, hr⟩ : ∃ r, appA (removeA A dead (nextN name)).2 fuse dead (nextN name) (encs ps) = r := ⟨_, rfl⟩
        have er0 : rewA A fuse dead name ps = if (syncA r.2.1 r.2.2.2 (nextN name)).1 ≠ 0 then ((syncA r.2.1 r.2.2.2 (nextN name)).1, (syncA r.2.1 r.2.2.2 (nextN name)).2, r.2.2.1, r.2.2.2)
            else ((renameA (syncA r.2.1 r.2.2.2 (nextN name)).2 r.2.2.2 (nextN name) name).1, (renameA (syncA r.2.1 r.2.2.2 (nextN name)).2 r.2.2.2 (nextN name) name).2, r.2.2.1, r.2.2.2) := by
          unfold rewA; rw [if_neg hlong, if_neg hrm]; simp only [hr]; rw [if_neg (by rw [← hr]; exact hap)]
        rw [er0]
        rw [hr] at d3 e3' h3 s3
        obtain ⟨w4, e4, d4, g4⟩ := sync13 d3 (nextN name)
        have s4 := s3.step d4 g4
        have DD4 := DD3.trans (Did.of_chg g4)
        have b3 : w3.cell? ⟨wb, 0, none⟩ = some (.pointer (some ⟨b, 0, none⟩)) := s3.wl.blk.cell 0
        have e4' : callF Try.prog 20 #[.pointer (some ⟨b, 0, none⟩), .string (name ++ (⟨#[126]⟩ : ByteArray))] w3 = some (.int .i64 (syncA r.2.1 r.2.2.2 (nextN name)).1, w4) := e4
        by_cases hsy : (syncA r.2.1 r.2.2.2 (nextN name)).1 ≠ 0
        · rw [if_pos hsy]
          refine ⟨w4, D3, g24_call ?_, by rw [if_neg hsy]; exact s4, DD4⟩
          have h4 : ((syncA r.2.1 r.2.2.2 (nextN name)).1 != 0) = true := by simpa using hsy
          unfold g24
          simp only [g24_l2_x0_of e1, Option.bind_some, asP_pointer, asB_bool, asI_int, asS_string, asSl_slice, asM_map, asTup0, asTup1, asTup2, asTup3, asTup4, asTup5, getD0, getD1, getD2, getD3, getD4, Bool.not_true, Bool.not_false, Bool.false_eq_true, Bool.true_eq_false, ↓reduceIte, decide_true, decide_false, Option.isNone_some, Option.isNone_none, Option.isSome_some, Option.isSome_none, beq_self_eq_true, bne_self_eq_false, Bool.and_true, Bool.true_and, Bool.and_false, Bool.false_and, not_true_eq_false, not_false_eq_true]
          unfold g24_l2_x0
          rcases hbr with h1 | ⟨h1, h2⟩
          · simp only [addr_add, Nat.zero_add, c1, hsz, c0, e2', h1, b0, e3', h3, b3, e4', h4, Option.bind_some, asP_pointer, asB_bool, asI_int, asS_string, asSl_slice, asM_map, asTup0, asTup1, asTup2, asTup3, asTup4, asTup5, getD0, getD1, getD2, getD3, getD4, Bool.not_true, Bool.not_false, Bool.false_eq_true, Bool.true_eq_false, ↓reduceIte, decide_true, decide_false, Option.isNone_some, Option.isNone_none, Option.isSome_some, Option.isSome_none, beq_self_eq_true, bne_self_eq_false, Bool.and_true, Bool.true_and, Bool.and_false, Bool.false_and, not_true_eq_false, not_false_eq_true]
          · simp only [addr_add, Nat.zero_add, c1, hsz, c0, e2', h1, h2, b0, e3', h3, b3, e4', h4, Option.bind_some, asP_pointer, asB_bool, asI_int, asS_string, asSl_slice, asM_map, asTup0, asTup1, asTup2, asTup3, asTup4, asTup5, getD0, getD1, getD2, getD3, getD4, Bool.not_true, Bool.not_false, Bool.false_eq_true, Bool.true_eq_false, ↓reduceIte, decide_true, decide_false, Option.isNone_some, Option.isNone_none, Option.isSome_some, Option.isSome_none, beq_self_eq_true, bne_self_eq_false, Bool.and_true, Bool.true_and, Bool.and_false, Bool.false_and, not_true_eq_false, not_false_eq_true]
        · rw [if_neg hsy]
          have h4 : ((syncA r.2.1 r.2.2.2 (nextN name)).1 != 0) = false := by simpa using hsy
          have fd := Fr.drew [] w4
          obtain ⟨w5, e5, d5, g5⟩ := rename19 (d4.fr fd (by simp)) (nextN name) name
          have s4d := s4.fr fd (by simp)
          have s5 := s4d.step d5 g5
          have DD5 := (DD4.trans (Did.of_fr fd (by simp))).trans (Did.of_chg g5)
          have b4 : w4.drew.cell? ⟨wb, 0, none⟩ = some (.pointer (some ⟨b, 0, none⟩)) := s4d.wl.blk.cell 0
          have b4' : w4.drew.cell? ⟨wb, 1, none⟩ = some (.string name) := s4d.wl.blk.cell 1
          have e5' : callF Try.prog 40 #[.pointer (some ⟨b, 0, none⟩), .string (name ++ (⟨#[126]⟩ : ByteArray)), .string name] w4.drew = some (.int .i64 (renameA (syncA r.2.1 r.2.2.2 (nextN name)).2 r.2.2.2 (nextN name) name).1, w5) := e5
          by_cases hok : (renameA (syncA r.2.1 r.2.2.2 (nextN name)).2 r.2.2.2 (nextN name) name).1 = 0
          · rw [if_pos hok]
            have t6 : st1 w5 ⟨wb, 3, none⟩ (.int .i64 (v.2.1 : Int)) = some (w5.setCell ⟨wb, 3, none⟩ (.int .i64 (v.2.1 : Int))) := s5.wl.blk.st1 (by simp) rfl
            have f6 : Fr [wb] w5 (w5.setCell ⟨wb, 3, none⟩ (.int .i64 (v.2.1 : Int))) := Fr.setCell
            have b6 := s5.wl.blk.set 3 (.int .i64 (v.2.1 : Int))
            simp only [List.set_cons_succ, List.set_cons_zero] at b6
            obtain ⟨nf, nt, nft⟩ := s5.wl.ne
            have h6 : ((renameA (syncA r.2.1 r.2.2.2 (nextN name)).2 r.2.2.2 (nextN name) name).1 == 0) = true := by simpa using hok
            refine ⟨_, D3, g24_call ?_, ⟨s5.dk.fr f6 (by intro y hy _; simp at hy; subst hy; exact s5.ap _ (.inl rfl)), ⟨by rw [hlen]; exact b6, s5.wl.fm.fr f6 (by simpa using nf.symm) (by simpa using nt.symm)⟩, s5.ap⟩, DD5.trans (Did.of_fr f6 (by intro y hy; simp at hy; exact .inl hy))⟩
            unfold g24
            simp only [g24_l2_x0_of e1, Option.bind_some, asP_pointer, asB_bool, asI_int, asS_string, asSl_slice, asM_map, asTup0, asTup1, asTup2, asTup3, asTup4, asTup5, getD0, getD1, getD2, getD3, getD4, Bool.not_true, Bool.not_false, Bool.false_eq_true, Bool.true_eq_false, ↓reduceIte, decide_true, decide_false, Option.isNone_some, Option.isNone_none, Option.isSome_some, Option.isSome_none, beq_self_eq_true, bne_self_eq_false, Bool.and_true, Bool.true_and, Bool.and_false, Bool.false_and, not_true_eq_false, not_false_eq_true]
            unfold g24_l2_x0
            rcases hbr with h1 | ⟨h1, h2⟩
            · simp only [addr_add, Nat.zero_add, c1, hsz, c0, e2', h1, b0, e3', h3, b3, e4', h4, b4, b4', e5', h6, t6, Option.bind_some, asP_pointer, asB_bool, asI_int, asS_string, asSl_slice, asM_map, asTup0, asTup1, asTup2, asTup3, asTup4, asTup5, getD0, getD1, getD2, getD3, getD4, Bool.not_true, Bool.not_false, Bool.false_eq_true, Bool.true_eq_false, ↓reduceIte, decide_true, decide_false, Option.isNone_some, Option.isNone_none, Option.isSome_some, Option.isSome_none, beq_self_eq_true, bne_self_eq_false, Bool.and_true, Bool.true_and, Bool.and_false, Bool.false_and, not_true_eq_false, not_false_eq_true]
            · simp only [addr_add, Nat.zero_add, c1, hsz, c0, e2', h1, h2, b0, e3', h3, b3, e4', h4, b4, b4', e5', h6, t6, Option.bind_some, asP_pointer, asB_bool, asI_int, asS_string, asSl_slice, asM_map, asTup0, asTup1, asTup2, asTup3, asTup4, asTup5, getD0, getD1, getD2, getD3, getD4, Bool.not_true, Bool.not_false, Bool.false_eq_true, Bool.true_eq_false, ↓reduceIte, decide_true, decide_false, Option.isNone_some, Option.isNone_none, Option.isSome_some, Option.isSome_none, beq_self_eq_true, bne_self_eq_false, Bool.and_true, Bool.true_and, Bool.and_false, Bool.false_and, not_true_eq_false, not_false_eq_true]
          · rw [if_neg hok]
            have h6 : ((renameA (syncA r.2.1 r.2.2.2 (nextN name)).2 r.2.2.2 (nextN name) name).1 == 0) = false := by simpa using hok
            refine ⟨w5, D3, g24_call ?_, s5, DD5⟩
            unfold g24
            simp only [g24_l2_x0_of e1, Option.bind_some, asP_pointer, asB_bool, asI_int, asS_string, asSl_slice, asM_map, asTup0, asTup1, asTup2, asTup3, asTup4, asTup5, getD0, getD1, getD2, getD3, getD4, Bool.not_true, Bool.not_false, Bool.false_eq_true, Bool.true_eq_false, ↓reduceIte, decide_true, decide_false, Option.isNone_some, Option.isNone_none, Option.isSome_some, Option.isSome_none, beq_self_eq_true, bne_self_eq_false, Bool.and_true, Bool.true_and, Bool.and_false, Bool.false_and, not_true_eq_false, not_false_eq_true]
            unfold g24_l2_x0
            rcases hbr with h1 | ⟨h1, h2⟩
            · simp only [addr_add, Nat.zero_add, c1, hsz, c0, e2', h1, b0, e3', h3, b3, e4', h4, b4, b4', e5', h6, Option.bind_some, asP_pointer, asB_bool, asI_int, asS_string, asSl_slice, asM_map, asTup0, asTup1, asTup2, asTup3, asTup4, asTup5, getD0, getD1, getD2, getD3, getD4, Bool.not_true, Bool.not_false, Bool.false_eq_true, Bool.true_eq_false, ↓reduceIte, decide_true, decide_false, Option.isNone_some, Option.isNone_none, Option.isSome_some, Option.isSome_none, beq_self_eq_true, bne_self_eq_false, Bool.and_true, Bool.true_and, Bool.and_false, Bool.false_and, not_true_eq_false, not_false_eq_true]
            · simp only [addr_add, Nat.zero_add, c1, hsz, c0, e2', h1, h2, b0, e3', h3, b3, e4', h4, b4, b4', e5', h6, Option.bind_some, asP_pointer, asB_bool, asI_int, asS_string, asSl_slice, asM_map, asTup0, asTup1, asTup2, asTup3, asTup4, asTup5, getD0, getD1, getD2, getD3, getD4, Bool.not_true, Bool.not_false, Bool.false_eq_true, Bool.true_eq_false, ↓reduceIte, decide_true, decide_false, Option.isNone_some, Option.isNone_none, Option.isSome_some, Option.isSome_none, beq_self_eq_true, bne_self_eq_false, Bool.and_true, Bool.true_and, Bool.and_false, Bool.false_and, not_true_eq_false, not_false_eq_true]
end
end Go.Proofs.Ytnflklkjjjlpaaa
