/-
  GroupQ: lemmas on what Go functions of this seat come to (for whatever arguments, as each says). No condition but those that stand in each lemma.
-/
import Derived.Test.YtcakijeoeankfaaGroupZs
import Derived.Test.YtcakijeoeankfaaGroupD
namespace Go.Proofs.Ytcakijeoeankfaa
open Go Go.Ev
set_option maxRecDepth 100000
set_option linter.unusedVariables false
set_option linter.unusedSimpArgs false

structure GV.Ok (r : GV) : Prop where
  k : -9223372036854775808 ≤ r.k ∧ r.k ≤ 9223372036854775807
  grp : -9223372036854775808 ≤ r.grp ∧ r.grp ≤ 9223372036854775807
  gen : -9223372036854775808 ≤ r.gen ∧ r.gen ≤ 9223372036854775807
  part : -9223372036854775808 ≤ r.part ∧ r.part ≤ 9223372036854775807
  off : -9223372036854775808 ≤ r.off ∧ r.off ≤ 9223372036854775807
  mem : ∀ z ∈ r.mem, -9223372036854775808 ≤ z ∧ z ≤ 9223372036854775807
/-- rises from a number on -/
def riseB : Int → List Int → Bool
  | _, [] => true
  | last, a :: l => decide (last < a) && riseB a l
def badG (r : GV) : Prop := r.k < 1 ∨ 2 < r.k ∨ r.grp < 0 ∨ 7 < r.grp ∨ r.gen < 0 ∨ 8 < r.mem.length ∨ r.off < 0 ∨ r.part < 0 ∨ 3 < r.part ∨ riseB (-1) r.mem = false
instance (r : GV) : Decidable (badG r) := by unfold badG; infer_instance
def grB (r : GV) : List Int := encI r.k ++ encI r.grp ++ encI r.gen ++ encI r.part ++ encI r.off ++ encL r.mem
def rd6 (s : RS) : GV × RS :=
  (⟨(intS s).1, (intS (intS s).2).1, (intS (intS (intS s).2).2).1, (intsS (intS (intS (intS (intS (intS s).2).2).2).2).2).1, (intS (intS (intS (intS s).2).2).2).1, (intS (intS (intS (intS (intS s).2).2).2).2).1⟩,
   (intsS (intS (intS (intS (intS (intS s).2).2).2).2).2).2)
def decG (bs : List Int) : GV × Int := if endS (rd6 ⟨bs, 0, 0⟩).2 ≠ 0 then (gv0, endS (rd6 ⟨bs, 0, 0⟩).2) else if badG (rd6 ⟨bs, 0, 0⟩).1 then (gv0, 1) else ((rd6 ⟨bs, 0, 0⟩).1, 0)

theorem rd6_enc {r : GV} (h : r.Ok) (hl : r.mem.length ≤ 4096) : rd6 ⟨grB r, 0, 0⟩ = (r, ⟨grB r, (grB r).length, 0⟩) := by
  obtain ⟨h1, h2, h3, h4, h5, hp⟩ := h
  have hB : grB r = encI r.k ++ (encI r.grp ++ (encI r.gen ++ (encI r.part ++ (encI r.off ++ (encL r.mem ++ []))))) := by simp [grB]
  obtain ⟨B, hBB⟩ : ∃ B, grB r = B := ⟨_, rfl⟩
  rw [hBB] at hB ⊢
  have d0 : (⟨B, 0, 0⟩ : RS).bs.drop (⟨B, 0, 0⟩ : RS).at_ = encI r.k ++ (encI r.grp ++ (encI r.gen ++ (encI r.part ++ (encI r.off ++ (encL r.mem ++ []))))) := by simpa using hB
  have e1 := intS_enc rfl d0 h1
  have d1 := drop_on d0
  have e2 := intS_enc (s := ⟨B, 0 + (encI r.k).length, 0⟩) rfl d1 h2
  have d2 := drop_on (s := ⟨B, 0 + (encI r.k).length, 0⟩) d1
  have e3 := intS_enc (s := ⟨B, 0 + (encI r.k).length + (encI r.grp).length, 0⟩) rfl d2 h3
  have d3 := drop_on (s := ⟨B, 0 + (encI r.k).length + (encI r.grp).length, 0⟩) d2
  have e4 := intS_enc (s := ⟨B, 0 + (encI r.k).length + (encI r.grp).length + (encI r.gen).length, 0⟩) rfl d3 h4
  have d4 := drop_on (s := ⟨B, 0 + (encI r.k).length + (encI r.grp).length + (encI r.gen).length, 0⟩) d3
  have e5 := intS_enc (s := ⟨B, 0 + (encI r.k).length + (encI r.grp).length + (encI r.gen).length + (encI r.part).length, 0⟩) rfl d4 h5
  have d5 := drop_on (s := ⟨B, 0 + (encI r.k).length + (encI r.grp).length + (encI r.gen).length + (encI r.part).length, 0⟩) d4
  have e6 := intsS_enc (s := ⟨B, 0 + (encI r.k).length + (encI r.grp).length + (encI r.gen).length + (encI r.part).length + (encI r.off).length, 0⟩) rfl d5 hl hp
  simp only at e1 e2 e3 e4 e5 e6
  unfold rd6
  simp only [e1, e2, e3, e4, e5, e6]
  congr 2
  rw [hB]
  simp [Nat.add_assoc]
theorem decG_enc {r : GV} (h : r.Ok) (hb : ¬ badG r) : decG (grB r) = (r, 0) := by
  have hl : r.mem.length ≤ 8 := by unfold badG at hb; omega
  unfold decG
  rw [rd6_enc h (by omega)]
  have : endS ⟨grB r, (grB r).length, 0⟩ = 0 := by unfold endS; rw [if_neg (by simp)]
  simp only [this, ne_eq, not_true_eq_false, if_false, if_neg hb]
theorem rd6_ok {s : RS} (h : s.Ok) : (rd6 s).1.Ok ∧ (rd6 s).2.Ok ∧ (rd6 s).1.mem.length ≤ 4096 := by
  have h1 := h.int
  have h2 := h1.2.1.int
  have h3 := h2.2.1.int
  have h4 := h3.2.1.int
  have h5 := h4.2.1.int
  have h6 := h5.2.1.ints
  exact ⟨⟨h1.1, h2.1, h3.1, h4.1, h5.1, h6.1⟩, h6.2.1, h6.2.2.2⟩

section
variable {w : World} {q : ShT} {r : GV}

theorem rise_bad {l : List Int} {k : Nat} {last : Int} (hk : k < l.length) (h : l[k] ≤ last) : riseB last (l.drop k) = false := by
  rw [List.drop_eq_getElem_cons hk]
  simp [riseB]; intro hh; omega
theorem rise_on {l : List Int} {k : Nat} {last : Int} (hk : k < l.length) (h : last < l[k]) : riseB last (l.drop k) = riseB l[k] (l.drop (k + 1)) := by
  rw [List.drop_eq_getElem_cons hk]
  simp [riseB, h]

theorem bad34 (w : World) (r : GV) {q : ShT} (hu : SlI .i64 w q r.mem) (hl : r.mem.length ≤ 17592186043904) : ∃ w', callF Try.prog 34 #[r.arg q] w = some (.bool (decide (badG r)), w') ∧ Fr [] w w' := by
  have hq := hu.1
  have fa : Fr [] w (w.alloc (.cells #[.int .i64 r.k, .int .i64 r.grp, .int .i64 r.gen, .slice q.1 q.2.1 q.2.2, .int .i64 r.part, .int .i64 r.off] 27)) := Fr.alloc _
  have ba := Blk.new w (r.cs q) 27
  change Blk (w.alloc (.cells #[.int .i64 r.k, .int .i64 r.grp, .int .i64 r.gen, .slice q.1 q.2.1 q.2.2, .int .i64 r.part, .int .i64 r.off] 27)) _ _ _ at ba
  obtain ⟨w1, hw1⟩ : ∃ w1, w.alloc (.cells #[.int .i64 r.k, .int .i64 r.grp, .int .i64 r.gen, .slice q.1 q.2.1 q.2.2, .int .i64 r.part, .int .i64 r.off] 27) = w1 := ⟨_, rfl⟩
  rw [hw1] at fa ba
  have hu1 := hu.fr3 fa (by simp)
  have c0 : w1.cell? ⟨w.heap.size, 0, none⟩ = some (.int .i64 r.k) := ba.cell 0
  have c1 : w1.cell? ⟨w.heap.size, 1, none⟩ = some (.int .i64 r.grp) := ba.cell 1
  have c2 : w1.cell? ⟨w.heap.size, 2, none⟩ = some (.int .i64 r.gen) := ba.cell 2
  have c3 : w1.cell? ⟨w.heap.size, 3, none⟩ = some (.slice q.1 q.2.1 q.2.2) := ba.cell 3
  have c4 : w1.cell? ⟨w.heap.size, 4, none⟩ = some (.int .i64 r.part) := ba.cell 4
  have c5 : w1.cell? ⟨w.heap.size, 5, none⟩ = some (.int .i64 r.off) := ba.cell 5
  refine ⟨w1, g34_call ?_, fa⟩
  unfold g34
  rw [hw1]
  by_cases h1 : r.k < 1
  · have hb : decide (badG r) = true := by simp [badG, h1]
    have k1 : decide (r.k < 1) = true := by simp [h1]
    rw [hb]
    simp only [c0, k1, obs, asP_pointer, asB_bool, asI_int, asS_string, asSl_slice, asM_map, asTup0, asTup1, asTup2, asTup3, asTup4, asTup5, asTup6, asTup7, asTup8, asTup9, asAgg2, asAgg3, asAgg4, asAgg5, asAgg6, asAgg7, asAgg8, asAgg9, asAgg12, getD0, getD1, getD2, getD3, getD4, getD5, getD6, getD7, getD8, getD9, getD10, getD11, getD12, getD13, getD14, getD15, getD16, getD17, getD18, getD19, Bool.not_true, Bool.not_false, Bool.false_eq_true, Bool.true_eq_false, ↓reduceIte, decide_true, decide_false, Option.isNone_some, Option.isNone_none, Option.isSome_some, Option.isSome_none, beq_self_eq_true, bne_self_eq_false, Bool.and_true, Bool.true_and, Bool.and_false, Bool.false_and, not_true_eq_false, not_false_eq_true]
  have k1 : decide (r.k < 1) = false := by simp; omega
  by_cases h2 : 2 < r.k
  · have hb : decide (badG r) = true := by simp [badG, h2]
    have k2 : decide (r.k > 2) = true := by simp [h2]
    rw [hb]
    simp only [c0, k1, k2, obs, asP_pointer, asB_bool, asI_int, asS_string, asSl_slice, asM_map, asTup0, asTup1, asTup2, asTup3, asTup4, asTup5, asTup6, asTup7, asTup8, asTup9, asAgg2, asAgg3, asAgg4, asAgg5, asAgg6, asAgg7, asAgg8, asAgg9, asAgg12, getD0, getD1, getD2, getD3, getD4, getD5, getD6, getD7, getD8, getD9, getD10, getD11, getD12, getD13, getD14, getD15, getD16, getD17, getD18, getD19, Bool.not_true, Bool.not_false, Bool.false_eq_true, Bool.true_eq_false, ↓reduceIte, decide_true, decide_false, Option.isNone_some, Option.isNone_none, Option.isSome_some, Option.isSome_none, beq_self_eq_true, bne_self_eq_false, Bool.and_true, Bool.true_and, Bool.and_false, Bool.false_and, not_true_eq_false, not_false_eq_true]
  have k2 : decide (r.k > 2) = false := by simp; omega
  by_cases h3 : r.grp < 0
  · have hb : decide (badG r) = true := by simp [badG, h3]
    have k3 : decide (r.grp < 0) = true := by simp [h3]
    rw [hb]
    simp only [c0, k1, k2, addr_add, Nat.zero_add, c1, k3, obs, asP_pointer, asB_bool, asI_int, asS_string, asSl_slice, asM_map, asTup0, asTup1, asTup2, asTup3, asTup4, asTup5, asTup6, asTup7, asTup8, asTup9, asAgg2, asAgg3, asAgg4, asAgg5, asAgg6, asAgg7, asAgg8, asAgg9, asAgg12, getD0, getD1, getD2, getD3, getD4, getD5, getD6, getD7, getD8, getD9, getD10, getD11, getD12, getD13, getD14, getD15, getD16, getD17, getD18, getD19, Bool.not_true, Bool.not_false, Bool.false_eq_true, Bool.true_eq_false, ↓reduceIte, decide_true, decide_false, Option.isNone_some, Option.isNone_none, Option.isSome_some, Option.isSome_none, beq_self_eq_true, bne_self_eq_false, Bool.and_true, Bool.true_and, Bool.and_false, Bool.false_and, not_true_eq_false, not_false_eq_true]
  have k3 : decide (r.grp < 0) = false := by simp; omega
  by_cases h4 : 7 < r.grp
  · have hb : decide (badG r) = true := by simp [badG, h4]
    have k4 : decide (r.grp ≥ 8) = true := by simp; omega
    rw [hb]
    simp only [c0, k1, k2, addr_add, Nat.zero_add, c1, k3, k4, obs, asP_pointer, asB_bool, asI_int, asS_string, asSl_slice, asM_map, asTup0, asTup1, asTup2, asTup3, asTup4, asTup5, asTup6, asTup7, asTup8, asTup9, asAgg2, asAgg3, asAgg4, asAgg5, asAgg6, asAgg7, asAgg8, asAgg9, asAgg12, getD0, getD1, getD2, getD3, getD4, getD5, getD6, getD7, getD8, getD9, getD10, getD11, getD12, getD13, getD14, getD15, getD16, getD17, getD18, getD19, Bool.not_true, Bool.not_false, Bool.false_eq_true, Bool.true_eq_false, ↓reduceIte, decide_true, decide_false, Option.isNone_some, Option.isNone_none, Option.isSome_some, Option.isSome_none, beq_self_eq_true, bne_self_eq_false, Bool.and_true, Bool.true_and, Bool.and_false, Bool.false_and, not_true_eq_false, not_false_eq_true]
  have k4 : decide (r.grp ≥ 8) = false := by simp; omega
  by_cases h5 : r.gen < 0
  · have hb : decide (badG r) = true := by simp [badG, h5]
    have k5 : decide (r.gen < 0) = true := by simp [h5]
    rw [hb]
    simp only [c0, k1, k2, addr_add, Nat.zero_add, c1, k3, k4, c2, k5, obs, asP_pointer, asB_bool, asI_int, asS_string, asSl_slice, asM_map, asTup0, asTup1, asTup2, asTup3, asTup4, asTup5, asTup6, asTup7, asTup8, asTup9, asAgg2, asAgg3, asAgg4, asAgg5, asAgg6, asAgg7, asAgg8, asAgg9, asAgg12, getD0, getD1, getD2, getD3, getD4, getD5, getD6, getD7, getD8, getD9, getD10, getD11, getD12, getD13, getD14, getD15, getD16, getD17, getD18, getD19, Bool.not_true, Bool.not_false, Bool.false_eq_true, Bool.true_eq_false, ↓reduceIte, decide_true, decide_false, Option.isNone_some, Option.isNone_none, Option.isSome_some, Option.isSome_none, beq_self_eq_true, bne_self_eq_false, Bool.and_true, Bool.true_and, Bool.and_false, Bool.false_and, not_true_eq_false, not_false_eq_true]
  have k5 : decide (r.gen < 0) = false := by simp; omega
  by_cases h6 : 8 < r.mem.length
  · have hb : decide (badG r) = true := by simp [badG, h6]
    have k6 : decide ((q.2.1 : Int) > 8) = true := by simp; omega
    rw [hb]
    simp only [c0, k1, k2, addr_add, Nat.zero_add, c1, k3, k4, c2, k5, c3, k6, obs, asP_pointer, asB_bool, asI_int, asS_string, asSl_slice, asM_map, asTup0, asTup1, asTup2, asTup3, asTup4, asTup5, asTup6, asTup7, asTup8, asTup9, asAgg2, asAgg3, asAgg4, asAgg5, asAgg6, asAgg7, asAgg8, asAgg9, asAgg12, getD0, getD1, getD2, getD3, getD4, getD5, getD6, getD7, getD8, getD9, getD10, getD11, getD12, getD13, getD14, getD15, getD16, getD17, getD18, getD19, Bool.not_true, Bool.not_false, Bool.false_eq_true, Bool.true_eq_false, ↓reduceIte, decide_true, decide_false, Option.isNone_some, Option.isNone_none, Option.isSome_some, Option.isSome_none, beq_self_eq_true, bne_self_eq_false, Bool.and_true, Bool.true_and, Bool.and_false, Bool.false_and, not_true_eq_false, not_false_eq_true]
  have k6 : decide ((q.2.1 : Int) > 8) = false := by simp; omega
  by_cases h7 : r.off < 0
  · have hb : decide (badG r) = true := by simp [badG, h7]
    have k7 : decide (r.off < 0) = true := by simp [h7]
    rw [hb]
    simp only [c0, k1, k2, addr_add, Nat.zero_add, c1, k3, k4, c2, k5, c3, k6, c5, k7, obs, asP_pointer, asB_bool, asI_int, asS_string, asSl_slice, asM_map, asTup0, asTup1, asTup2, asTup3, asTup4, asTup5, asTup6, asTup7, asTup8, asTup9, asAgg2, asAgg3, asAgg4, asAgg5, asAgg6, asAgg7, asAgg8, asAgg9, asAgg12, getD0, getD1, getD2, getD3, getD4, getD5, getD6, getD7, getD8, getD9, getD10, getD11, getD12, getD13, getD14, getD15, getD16, getD17, getD18, getD19, Bool.not_true, Bool.not_false, Bool.false_eq_true, Bool.true_eq_false, ↓reduceIte, decide_true, decide_false, Option.isNone_some, Option.isNone_none, Option.isSome_some, Option.isSome_none, beq_self_eq_true, bne_self_eq_false, Bool.and_true, Bool.true_and, Bool.and_false, Bool.false_and, not_true_eq_false, not_false_eq_true]
  have k7 : decide (r.off < 0) = false := by simp; omega
  by_cases h8 : r.part < 0
  · have hb : decide (badG r) = true := by simp [badG, h8]
    have k8 : decide (r.part < 0) = true := by simp [h8]
    rw [hb]
    simp only [c0, k1, k2, addr_add, Nat.zero_add, c1, k3, k4, c2, k5, c3, k6, c5, k7, c4, k8, obs, asP_pointer, asB_bool, asI_int, asS_string, asSl_slice, asM_map, asTup0, asTup1, asTup2, asTup3, asTup4, asTup5, asTup6, asTup7, asTup8, asTup9, asAgg2, asAgg3, asAgg4, asAgg5, asAgg6, asAgg7, asAgg8, asAgg9, asAgg12, getD0, getD1, getD2, getD3, getD4, getD5, getD6, getD7, getD8, getD9, getD10, getD11, getD12, getD13, getD14, getD15, getD16, getD17, getD18, getD19, Bool.not_true, Bool.not_false, Bool.false_eq_true, Bool.true_eq_false, ↓reduceIte, decide_true, decide_false, Option.isNone_some, Option.isNone_none, Option.isSome_some, Option.isSome_none, beq_self_eq_true, bne_self_eq_false, Bool.and_true, Bool.true_and, Bool.and_false, Bool.false_and, not_true_eq_false, not_false_eq_true]
  have k8 : decide (r.part < 0) = false := by simp; omega
  by_cases h9 : 3 < r.part
  · have hb : decide (badG r) = true := by simp [badG, h9]
    have k9 : decide (r.part ≥ 4) = true := by simp; omega
    rw [hb]
    simp only [c0, k1, k2, addr_add, Nat.zero_add, c1, k3, k4, c2, k5, c3, k6, c5, k7, c4, k8, k9, obs, asP_pointer, asB_bool, asI_int, asS_string, asSl_slice, asM_map, asTup0, asTup1, asTup2, asTup3, asTup4, asTup5, asTup6, asTup7, asTup8, asTup9, asAgg2, asAgg3, asAgg4, asAgg5, asAgg6, asAgg7, asAgg8, asAgg9, asAgg12, getD0, getD1, getD2, getD3, getD4, getD5, getD6, getD7, getD8, getD9, getD10, getD11, getD12, getD13, getD14, getD15, getD16, getD17, getD18, getD19, Bool.not_true, Bool.not_false, Bool.false_eq_true, Bool.true_eq_false, ↓reduceIte, decide_true, decide_false, Option.isNone_some, Option.isNone_none, Option.isSome_some, Option.isSome_none, beq_self_eq_true, bne_self_eq_false, Bool.and_true, Bool.true_and, Bool.and_false, Bool.false_and, not_true_eq_false, not_false_eq_true]
  have k9 : decide (r.part ≥ 4) = false := by simp; omega
  have hb : decide (badG r) = !riseB (-1) r.mem := by
    cases hr : riseB (-1) r.mem <;> simp [badG, hr, h1, h2, h3, h4, h5, h6, h7, h8, h9]
  have loop : ∃ e t, loopS (g34_l23_b q w) (false, 0) w1 = some (e, t, w1) ∧ (e = .ret ∧ t.1 = true ∧ riseB (-1) r.mem = false ∨ e = .exit 0 ∧ riseB (-1) r.mem = true) := by
    obtain ⟨e, t, x, g, rfl, hQ⟩ := loopS_rule (b := g34_l23_b q w) (n := r.mem.length)
      (I := fun k s x => s = (false, (k : Int)) ∧ x = w1 ∧ ∃ last : Int, -1 ≤ last ∧ (k = 0 → last = -1) ∧ (∀ h : 0 < k ∧ k - 1 < r.mem.length, last = r.mem[k - 1]'h.2) ∧ riseB (-1) r.mem = riseB last (r.mem.drop k))
      (Q := fun e s x => x = w1 ∧ (e = .ret ∧ s.1 = true ∧ riseB (-1) r.mem = false ∨ e = .exit 0 ∧ riseB (-1) r.mem = true))
      (fun k s x hk ⟨hs, hx, last, hl1, hl0, hlk, hI⟩ => by
        subst hs hx
        obtain ⟨a, i1, cc⟩ := hu1.get hk
        have j0 : decide ((k : Int) < (q.2.1 : Int)) = true := by simp; omega
        have kw := wrap_succ (n := k) (by omega)
        by_cases hn : r.mem[k] < 0
        · have j1 : decide (r.mem[k] < 0) = true := by simp [hn]
          refine ⟨.ret, (true, (k : Int)), x, ?_, .inr ⟨by simp, rfl, .inl ⟨rfl, rfl, by rw [hI]; exact rise_bad hk (by omega)⟩⟩⟩
          unfold g34_l23_b
          simp only [j0, i1, cc, j1, obs, asP_pointer, asB_bool, asI_int, asS_string, asSl_slice, asM_map, asTup0, asTup1, asTup2, asTup3, asTup4, asTup5, asTup6, asTup7, asTup8, asTup9, asAgg2, asAgg3, asAgg4, asAgg5, asAgg6, asAgg7, asAgg8, asAgg9, asAgg12, getD0, getD1, getD2, getD3, getD4, getD5, getD6, getD7, getD8, getD9, getD10, getD11, getD12, getD13, getD14, getD15, getD16, getD17, getD18, getD19, Bool.not_true, Bool.not_false, Bool.false_eq_true, Bool.true_eq_false, ↓reduceIte, decide_true, decide_false, Option.isNone_some, Option.isNone_none, Option.isSome_some, Option.isSome_none, beq_self_eq_true, bne_self_eq_false, Bool.and_true, Bool.true_and, Bool.and_false, Bool.false_and, not_true_eq_false, not_false_eq_true]
        · have j1 : decide (r.mem[k] < 0) = false := by simp; omega
          by_cases h0 : 0 < k
          · have j2 : decide ((k : Int) > 0) = true := by simp; omega
            obtain ⟨a', i2, cc2⟩ := hu1.get (i := k - 1) (by omega)
            have hkm : IntKind.i64.wrap ((k : Int) - 1) = ((k - 1 : Nat) : Int) := by rw [wrap_i64 (by omega) (by omega)]; omega
            have hlast := hlk ⟨h0, by omega⟩
            by_cases hge : r.mem[k - 1]'(by omega) ≥ r.mem[k]
            · have j3 : decide (r.mem[k - 1]'(by omega) ≥ r.mem[k]) = true := by simp [hge]
              refine ⟨.ret, (true, (k : Int)), x, ?_, .inr ⟨by simp, rfl, .inl ⟨rfl, rfl, by rw [hI]; exact rise_bad hk (by omega)⟩⟩⟩
              unfold g34_l23_b
              simp only [j0, i1, cc, j1, j2, addr_add, Nat.zero_add, c3, hkm, i2, cc2, j3, obs, asP_pointer, asB_bool, asI_int, asS_string, asSl_slice, asM_map, asTup0, asTup1, asTup2, asTup3, asTup4, asTup5, asTup6, asTup7, asTup8, asTup9, asAgg2, asAgg3, asAgg4, asAgg5, asAgg6, asAgg7, asAgg8, asAgg9, asAgg12, getD0, getD1, getD2, getD3, getD4, getD5, getD6, getD7, getD8, getD9, getD10, getD11, getD12, getD13, getD14, getD15, getD16, getD17, getD18, getD19, Bool.not_true, Bool.not_false, Bool.false_eq_true, Bool.true_eq_false, ↓reduceIte, decide_true, decide_false, Option.isNone_some, Option.isNone_none, Option.isSome_some, Option.isSome_none, beq_self_eq_true, bne_self_eq_false, Bool.and_true, Bool.true_and, Bool.and_false, Bool.false_and, not_true_eq_false, not_false_eq_true]
            · have j3 : decide (r.mem[k - 1]'(by omega) ≥ r.mem[k]) = false := by simp; omega
              refine ⟨.normal, (false, ((k + 1 : Nat) : Int)), x, ?_, .inl ⟨rfl, rfl, rfl, r.mem[k], by omega, by omega, fun h => by simp, by rw [hI]; exact rise_on hk (by omega)⟩⟩
              unfold g34_l23_b
              simp only [j0, i1, cc, j1, j2, addr_add, Nat.zero_add, c3, hkm, i2, cc2, j3, kw, obs, asP_pointer, asB_bool, asI_int, asS_string, asSl_slice, asM_map, asTup0, asTup1, asTup2, asTup3, asTup4, asTup5, asTup6, asTup7, asTup8, asTup9, asAgg2, asAgg3, asAgg4, asAgg5, asAgg6, asAgg7, asAgg8, asAgg9, asAgg12, getD0, getD1, getD2, getD3, getD4, getD5, getD6, getD7, getD8, getD9, getD10, getD11, getD12, getD13, getD14, getD15, getD16, getD17, getD18, getD19, Bool.not_true, Bool.not_false, Bool.false_eq_true, Bool.true_eq_false, ↓reduceIte, decide_true, decide_false, Option.isNone_some, Option.isNone_none, Option.isSome_some, Option.isSome_none, beq_self_eq_true, bne_self_eq_false, Bool.and_true, Bool.true_and, Bool.and_false, Bool.false_and, not_true_eq_false, not_false_eq_true]
          · have j2 : decide ((k : Int) > 0) = false := by simp; omega
            have hl := hl0 (by omega)
            refine ⟨.normal, (false, ((k + 1 : Nat) : Int)), x, ?_, .inl ⟨rfl, rfl, rfl, r.mem[k], by omega, by omega, fun h => by simp, by rw [hI]; exact rise_on hk (by omega)⟩⟩
            unfold g34_l23_b
            simp only [j0, i1, cc, j1, j2, kw, obs, asP_pointer, asB_bool, asI_int, asS_string, asSl_slice, asM_map, asTup0, asTup1, asTup2, asTup3, asTup4, asTup5, asTup6, asTup7, asTup8, asTup9, asAgg2, asAgg3, asAgg4, asAgg5, asAgg6, asAgg7, asAgg8, asAgg9, asAgg12, getD0, getD1, getD2, getD3, getD4, getD5, getD6, getD7, getD8, getD9, getD10, getD11, getD12, getD13, getD14, getD15, getD16, getD17, getD18, getD19, Bool.not_true, Bool.not_false, Bool.false_eq_true, Bool.true_eq_false, ↓reduceIte, decide_true, decide_false, Option.isNone_some, Option.isNone_none, Option.isSome_some, Option.isSome_none, beq_self_eq_true, bne_self_eq_false, Bool.and_true, Bool.true_and, Bool.and_false, Bool.false_and, not_true_eq_false, not_false_eq_true])
      (fun s x ⟨hs, hx, last, hl1, hl0, hlk, hI⟩ => by
        subst hs hx
        rw [List.drop_length] at hI
        refine ⟨.exit 0, (false, (r.mem.length : Int)), x, ?_, by simp, rfl, .inr ⟨rfl, hI⟩⟩
        unfold g34_l23_b
        have j0 : decide ((r.mem.length : Int) < (q.2.1 : Int)) = false := by simp; omega
        simp only [j0, Bool.false_eq_true, if_false]) (k := 0) (s := (false, 0)) (w := w1) (Nat.zero_le _) ⟨rfl, rfl, -1, by omega, fun _ => rfl, fun h => absurd h.1 (by simp), rfl⟩
    exact ⟨e, t, g, hQ⟩
  obtain ⟨e, t, g, hQ⟩ := loop
  rw [hb]
  simp only [c0, k1, k2, addr_add, Nat.zero_add, c1, k3, k4, c2, k5, c3, k6, c5, k7, c4, k8, k9, obs, asP_pointer, asB_bool, asI_int, asS_string, asSl_slice, asM_map, asTup0, asTup1, asTup2, asTup3, asTup4, asTup5, asTup6, asTup7, asTup8, asTup9, asAgg2, asAgg3, asAgg4, asAgg5, asAgg6, asAgg7, asAgg8, asAgg9, asAgg12, getD0, getD1, getD2, getD3, getD4, getD5, getD6, getD7, getD8, getD9, getD10, getD11, getD12, getD13, getD14, getD15, getD16, getD17, getD18, getD19, Bool.not_true, Bool.not_false, Bool.false_eq_true, Bool.true_eq_false, ↓reduceIte, decide_true, decide_false, Option.isNone_some, Option.isNone_none, Option.isSome_some, Option.isSome_none, beq_self_eq_true, bne_self_eq_false, Bool.and_true, Bool.true_and, Bool.and_false, Bool.false_and, not_true_eq_false, not_false_eq_true]
  rcases hQ with ⟨rfl, ht, hr⟩ | ⟨rfl, hr⟩
  · rw [g34_l23_ret_of g, g34_l23_ret, ht, hr]; rfl
  · rw [g34_l23_x0_of g, g34_l23_x0, hr]; rfl

theorem bad28 (w : World) (r : GV) {q : ShT} (hu : SlI .i64 w q r.mem) (hl : r.mem.length ≤ 17592186043904) : ∃ w', callF Try.prog 28 #[r.arg q] w = some (.bool (decide (badG r)), w') ∧ Fr [] w w' := by
  have hq := hu.1
  have fa : Fr [] w (w.alloc (.cells #[.int .i64 r.k, .int .i64 r.grp, .int .i64 r.gen, .slice q.1 q.2.1 q.2.2, .int .i64 r.part, .int .i64 r.off] 27)) := Fr.alloc _
  have ba := Blk.new w (r.cs q) 27
  change Blk (w.alloc (.cells #[.int .i64 r.k, .int .i64 r.grp, .int .i64 r.gen, .slice q.1 q.2.1 q.2.2, .int .i64 r.part, .int .i64 r.off] 27)) _ _ _ at ba
  obtain ⟨w1, hw1⟩ : ∃ w1, w.alloc (.cells #[.int .i64 r.k, .int .i64 r.grp, .int .i64 r.gen, .slice q.1 q.2.1 q.2.2, .int .i64 r.part, .int .i64 r.off] 27) = w1 := ⟨_, rfl⟩
  rw [hw1] at fa ba
  have hu1 := hu.fr3 fa (by simp)
  have c0 : w1.cell? ⟨w.heap.size, 0, none⟩ = some (.int .i64 r.k) := ba.cell 0
  have c1 : w1.cell? ⟨w.heap.size, 1, none⟩ = some (.int .i64 r.grp) := ba.cell 1
  have c2 : w1.cell? ⟨w.heap.size, 2, none⟩ = some (.int .i64 r.gen) := ba.cell 2
  have c3 : w1.cell? ⟨w.heap.size, 3, none⟩ = some (.slice q.1 q.2.1 q.2.2) := ba.cell 3
  have c4 : w1.cell? ⟨w.heap.size, 4, none⟩ = some (.int .i64 r.part) := ba.cell 4
  have c5 : w1.cell? ⟨w.heap.size, 5, none⟩ = some (.int .i64 r.off) := ba.cell 5
  refine ⟨w1, g28_call ?_, fa⟩
  unfold g28
  rw [hw1]
  have loopl20 : ∃ e t, loopS (g28_l20_b w) (false, -1, 0) w1 = some (e, t, w1) ∧ (e = .ret ∧ t.1 = true ∧ riseB (-1) r.mem = false ∨ e = .exit 0 ∧ riseB (-1) r.mem = true) := by
    obtain ⟨e, t, x, g, rfl, hQ⟩ := loopS_rule (b := g28_l20_b w) (n := r.mem.length)
      (I := fun k s x => x = w1 ∧ ∃ last : Int, s = (false, last, (k : Int)) ∧ riseB (-1) r.mem = riseB last (r.mem.drop k))
      (Q := fun e s x => x = w1 ∧ (e = .ret ∧ s.1 = true ∧ riseB (-1) r.mem = false ∨ e = .exit 0 ∧ riseB (-1) r.mem = true))
      (fun k s x hk ⟨hx, last, hs, hI⟩ => by
        subst hs hx
        obtain ⟨a, i1, cc⟩ := hu1.get hk
        have j0 : decide ((k : Int) < (q.2.1 : Int)) = true := by simp; omega
        have kw := wrap_succ (n := k) (by omega)
        by_cases hn : r.mem[k] ≤ last
        · have j1 : decide (r.mem[k] ≤ last) = true := by simp [hn]
          refine ⟨.ret, (true, last, (k : Int)), x, ?_, .inr ⟨by simp, rfl, .inl ⟨rfl, rfl, by rw [hI]; exact rise_bad hk hn⟩⟩⟩
          unfold g28_l20_b
          simp only [addr_add, Nat.zero_add, c3, j0, i1, cc, j1, obs, asP_pointer, asB_bool, asI_int, asS_string, asSl_slice, asM_map, asTup0, asTup1, asTup2, asTup3, asTup4, asTup5, asTup6, asTup7, asTup8, asTup9, asAgg2, asAgg3, asAgg4, asAgg5, asAgg6, asAgg7, asAgg8, asAgg9, asAgg12, getD0, getD1, getD2, getD3, getD4, getD5, getD6, getD7, getD8, getD9, getD10, getD11, getD12, getD13, getD14, getD15, getD16, getD17, getD18, getD19, Bool.not_true, Bool.not_false, Bool.false_eq_true, Bool.true_eq_false, ↓reduceIte, decide_true, decide_false, Option.isNone_some, Option.isNone_none, Option.isSome_some, Option.isSome_none, beq_self_eq_true, bne_self_eq_false, Bool.and_true, Bool.true_and, Bool.and_false, Bool.false_and, not_true_eq_false, not_false_eq_true]
        · have j1 : decide (r.mem[k] ≤ last) = false := by simp; omega
          refine ⟨.normal, (false, r.mem[k], ((k + 1 : Nat) : Int)), x, ?_, .inl ⟨rfl, rfl, r.mem[k], rfl, by rw [hI]; exact rise_on hk (by omega)⟩⟩
          unfold g28_l20_b
          simp only [addr_add, Nat.zero_add, c3, j0, i1, cc, j1, kw, obs, asP_pointer, asB_bool, asI_int, asS_string, asSl_slice, asM_map, asTup0, asTup1, asTup2, asTup3, asTup4, asTup5, asTup6, asTup7, asTup8, asTup9, asAgg2, asAgg3, asAgg4, asAgg5, asAgg6, asAgg7, asAgg8, asAgg9, asAgg12, getD0, getD1, getD2, getD3, getD4, getD5, getD6, getD7, getD8, getD9, getD10, getD11, getD12, getD13, getD14, getD15, getD16, getD17, getD18, getD19, Bool.not_true, Bool.not_false, Bool.false_eq_true, Bool.true_eq_false, ↓reduceIte, decide_true, decide_false, Option.isNone_some, Option.isNone_none, Option.isSome_some, Option.isSome_none, beq_self_eq_true, bne_self_eq_false, Bool.and_true, Bool.true_and, Bool.and_false, Bool.false_and, not_true_eq_false, not_false_eq_true])
      (fun s x ⟨hx, last, hs, hI⟩ => by
        subst hs hx
        rw [List.drop_length] at hI
        refine ⟨.exit 0, (false, last, (r.mem.length : Int)), x, ?_, by simp, rfl, .inr ⟨rfl, hI⟩⟩
        unfold g28_l20_b
        have j0 : decide ((r.mem.length : Int) < (q.2.1 : Int)) = false := by simp; omega
        simp only [addr_add, Nat.zero_add, c3, j0, obs, asP_pointer, asB_bool, asI_int, asS_string, asSl_slice, asM_map, asTup0, asTup1, asTup2, asTup3, asTup4, asTup5, asTup6, asTup7, asTup8, asTup9, asAgg2, asAgg3, asAgg4, asAgg5, asAgg6, asAgg7, asAgg8, asAgg9, asAgg12, getD0, getD1, getD2, getD3, getD4, getD5, getD6, getD7, getD8, getD9, getD10, getD11, getD12, getD13, getD14, getD15, getD16, getD17, getD18, getD19, Bool.not_true, Bool.not_false, Bool.false_eq_true, Bool.true_eq_false, ↓reduceIte, decide_true, decide_false, Option.isNone_some, Option.isNone_none, Option.isSome_some, Option.isSome_none, beq_self_eq_true, bne_self_eq_false, Bool.and_true, Bool.true_and, Bool.and_false, Bool.false_and, not_true_eq_false, not_false_eq_true]) (k := 0) (s := (false, -1, 0)) (w := w1) (Nat.zero_le _) ⟨rfl, -1, rfl, rfl⟩
    exact ⟨e, t, g, hQ⟩
  have loopl58 : ∃ e t, loopS (g28_l58_b w) (false, -1, 0) w1 = some (e, t, w1) ∧ (e = .ret ∧ t.1 = true ∧ riseB (-1) r.mem = false ∨ e = .exit 0 ∧ riseB (-1) r.mem = true) := by
    obtain ⟨e, t, x, g, rfl, hQ⟩ := loopS_rule (b := g28_l58_b w) (n := r.mem.length)
      (I := fun k s x => x = w1 ∧ ∃ last : Int, s = (false, last, (k : Int)) ∧ riseB (-1) r.mem = riseB last (r.mem.drop k))
      (Q := fun e s x => x = w1 ∧ (e = .ret ∧ s.1 = true ∧ riseB (-1) r.mem = false ∨ e = .exit 0 ∧ riseB (-1) r.mem = true))
      (fun k s x hk ⟨hx, last, hs, hI⟩ => by
        subst hs hx
        obtain ⟨a, i1, cc⟩ := hu1.get hk
        have j0 : decide ((k : Int) < (q.2.1 : Int)) = true := by simp; omega
        have kw := wrap_succ (n := k) (by omega)
        by_cases hn : r.mem[k] ≤ last
        · have j1 : decide (r.mem[k] ≤ last) = true := by simp [hn]
          refine ⟨.ret, (true, last, (k : Int)), x, ?_, .inr ⟨by simp, rfl, .inl ⟨rfl, rfl, by rw [hI]; exact rise_bad hk hn⟩⟩⟩
          unfold g28_l58_b
          simp only [addr_add, Nat.zero_add, c3, j0, i1, cc, j1, obs, asP_pointer, asB_bool, asI_int, asS_string, asSl_slice, asM_map, asTup0, asTup1, asTup2, asTup3, asTup4, asTup5, asTup6, asTup7, asTup8, asTup9, asAgg2, asAgg3, asAgg4, asAgg5, asAgg6, asAgg7, asAgg8, asAgg9, asAgg12, getD0, getD1, getD2, getD3, getD4, getD5, getD6, getD7, getD8, getD9, getD10, getD11, getD12, getD13, getD14, getD15, getD16, getD17, getD18, getD19, Bool.not_true, Bool.not_false, Bool.false_eq_true, Bool.true_eq_false, ↓reduceIte, decide_true, decide_false, Option.isNone_some, Option.isNone_none, Option.isSome_some, Option.isSome_none, beq_self_eq_true, bne_self_eq_false, Bool.and_true, Bool.true_and, Bool.and_false, Bool.false_and, not_true_eq_false, not_false_eq_true]
        · have j1 : decide (r.mem[k] ≤ last) = false := by simp; omega
          refine ⟨.normal, (false, r.mem[k], ((k + 1 : Nat) : Int)), x, ?_, .inl ⟨rfl, rfl, r.mem[k], rfl, by rw [hI]; exact rise_on hk (by omega)⟩⟩
          unfold g28_l58_b
          simp only [addr_add, Nat.zero_add, c3, j0, i1, cc, j1, kw, obs, asP_pointer, asB_bool, asI_int, asS_string, asSl_slice, asM_map, asTup0, asTup1, asTup2, asTup3, asTup4, asTup5, asTup6, asTup7, asTup8, asTup9, asAgg2, asAgg3, asAgg4, asAgg5, asAgg6, asAgg7, asAgg8, asAgg9, asAgg12, getD0, getD1, getD2, getD3, getD4, getD5, getD6, getD7, getD8, getD9, getD10, getD11, getD12, getD13, getD14, getD15, getD16, getD17, getD18, getD19, Bool.not_true, Bool.not_false, Bool.false_eq_true, Bool.true_eq_false, ↓reduceIte, decide_true, decide_false, Option.isNone_some, Option.isNone_none, Option.isSome_some, Option.isSome_none, beq_self_eq_true, bne_self_eq_false, Bool.and_true, Bool.true_and, Bool.and_false, Bool.false_and, not_true_eq_false, not_false_eq_true])
      (fun s x ⟨hx, last, hs, hI⟩ => by
        subst hs hx
        rw [List.drop_length] at hI
        refine ⟨.exit 0, (false, last, (r.mem.length : Int)), x, ?_, by simp, rfl, .inr ⟨rfl, hI⟩⟩
        unfold g28_l58_b
        have j0 : decide ((r.mem.length : Int) < (q.2.1 : Int)) = false := by simp; omega
        simp only [addr_add, Nat.zero_add, c3, j0, obs, asP_pointer, asB_bool, asI_int, asS_string, asSl_slice, asM_map, asTup0, asTup1, asTup2, asTup3, asTup4, asTup5, asTup6, asTup7, asTup8, asTup9, asAgg2, asAgg3, asAgg4, asAgg5, asAgg6, asAgg7, asAgg8, asAgg9, asAgg12, getD0, getD1, getD2, getD3, getD4, getD5, getD6, getD7, getD8, getD9, getD10, getD11, getD12, getD13, getD14, getD15, getD16, getD17, getD18, getD19, Bool.not_true, Bool.not_false, Bool.false_eq_true, Bool.true_eq_false, ↓reduceIte, decide_true, decide_false, Option.isNone_some, Option.isNone_none, Option.isSome_some, Option.isSome_none, beq_self_eq_true, bne_self_eq_false, Bool.and_true, Bool.true_and, Bool.and_false, Bool.false_and, not_true_eq_false, not_false_eq_true]) (k := 0) (s := (false, -1, 0)) (w := w1) (Nat.zero_le _) ⟨rfl, -1, rfl, rfl⟩
    exact ⟨e, t, g, hQ⟩
  by_cases h0 : r.k = 1
  · have k1 : (r.k != 1) = false := by simp [h0]
    have z1 : ¬ r.k < 1 := by omega
    have z2 : ¬ 2 < r.k := by omega
    by_cases h3 : r.grp < 0
    · have hb : decide (badG r) = true := by simp [badG, h3]
      have k3 : decide (r.grp < 0) = true := by simp; omega
      rw [hb]
      simp only [c0, k1, addr_add, Nat.zero_add, c1, k3, obs, asP_pointer, asB_bool, asI_int, asS_string, asSl_slice, asM_map, asTup0, asTup1, asTup2, asTup3, asTup4, asTup5, asTup6, asTup7, asTup8, asTup9, asAgg2, asAgg3, asAgg4, asAgg5, asAgg6, asAgg7, asAgg8, asAgg9, asAgg12, getD0, getD1, getD2, getD3, getD4, getD5, getD6, getD7, getD8, getD9, getD10, getD11, getD12, getD13, getD14, getD15, getD16, getD17, getD18, getD19, Bool.not_true, Bool.not_false, Bool.false_eq_true, Bool.true_eq_false, ↓reduceIte, decide_true, decide_false, Option.isNone_some, Option.isNone_none, Option.isSome_some, Option.isSome_none, beq_self_eq_true, bne_self_eq_false, Bool.and_true, Bool.true_and, Bool.and_false, Bool.false_and, not_true_eq_false, not_false_eq_true]
    have k3 : decide (r.grp < 0) = false := by simp; omega
    by_cases h4 : 7 < r.grp
    · have hb : decide (badG r) = true := by simp [badG, h4]
      have k4 : decide (r.grp > 7) = true := by simp; omega
      rw [hb]
      simp only [c0, k1, addr_add, Nat.zero_add, c1, k3, k4, obs, asP_pointer, asB_bool, asI_int, asS_string, asSl_slice, asM_map, asTup0, asTup1, asTup2, asTup3, asTup4, asTup5, asTup6, asTup7, asTup8, asTup9, asAgg2, asAgg3, asAgg4, asAgg5, asAgg6, asAgg7, asAgg8, asAgg9, asAgg12, getD0, getD1, getD2, getD3, getD4, getD5, getD6, getD7, getD8, getD9, getD10, getD11, getD12, getD13, getD14, getD15, getD16, getD17, getD18, getD19, Bool.not_true, Bool.not_false, Bool.false_eq_true, Bool.true_eq_false, ↓reduceIte, decide_true, decide_false, Option.isNone_some, Option.isNone_none, Option.isSome_some, Option.isSome_none, beq_self_eq_true, bne_self_eq_false, Bool.and_true, Bool.true_and, Bool.and_false, Bool.false_and, not_true_eq_false, not_false_eq_true]
    have k4 : decide (r.grp > 7) = false := by simp; omega
    by_cases h5 : r.gen < 0
    · have hb : decide (badG r) = true := by simp [badG, h5]
      have k5 : decide (r.gen < 0) = true := by simp; omega
      rw [hb]
      simp only [c0, k1, addr_add, Nat.zero_add, c1, k3, k4, c2, k5, obs, asP_pointer, asB_bool, asI_int, asS_string, asSl_slice, asM_map, asTup0, asTup1, asTup2, asTup3, asTup4, asTup5, asTup6, asTup7, asTup8, asTup9, asAgg2, asAgg3, asAgg4, asAgg5, asAgg6, asAgg7, asAgg8, asAgg9, asAgg12, getD0, getD1, getD2, getD3, getD4, getD5, getD6, getD7, getD8, getD9, getD10, getD11, getD12, getD13, getD14, getD15, getD16, getD17, getD18, getD19, Bool.not_true, Bool.not_false, Bool.false_eq_true, Bool.true_eq_false, ↓reduceIte, decide_true, decide_false, Option.isNone_some, Option.isNone_none, Option.isSome_some, Option.isSome_none, beq_self_eq_true, bne_self_eq_false, Bool.and_true, Bool.true_and, Bool.and_false, Bool.false_and, not_true_eq_false, not_false_eq_true]
    have k5 : decide (r.gen < 0) = false := by simp; omega
    by_cases h7 : r.off < 0
    · have hb : decide (badG r) = true := by simp [badG, h7]
      have k7 : decide (r.off < 0) = true := by simp; omega
      rw [hb]
      simp only [c0, k1, addr_add, Nat.zero_add, c1, k3, k4, c2, k5, c5, k7, obs, asP_pointer, asB_bool, asI_int, asS_string, asSl_slice, asM_map, asTup0, asTup1, asTup2, asTup3, asTup4, asTup5, asTup6, asTup7, asTup8, asTup9, asAgg2, asAgg3, asAgg4, asAgg5, asAgg6, asAgg7, asAgg8, asAgg9, asAgg12, getD0, getD1, getD2, getD3, getD4, getD5, getD6, getD7, getD8, getD9, getD10, getD11, getD12, getD13, getD14, getD15, getD16, getD17, getD18, getD19, Bool.not_true, Bool.not_false, Bool.false_eq_true, Bool.true_eq_false, ↓reduceIte, decide_true, decide_false, Option.isNone_some, Option.isNone_none, Option.isSome_some, Option.isSome_none, beq_self_eq_true, bne_self_eq_false, Bool.and_true, Bool.true_and, Bool.and_false, Bool.false_and, not_true_eq_false, not_false_eq_true]
    have k7 : decide (r.off < 0) = false := by simp; omega
    by_cases h8 : r.part < 0
    · have hb : decide (badG r) = true := by simp [badG, h8]
      have k8 : decide (r.part < 0) = true := by simp; omega
      rw [hb]
      simp only [c0, k1, addr_add, Nat.zero_add, c1, k3, k4, c2, k5, c5, k7, c4, k8, obs, asP_pointer, asB_bool, asI_int, asS_string, asSl_slice, asM_map, asTup0, asTup1, asTup2, asTup3, asTup4, asTup5, asTup6, asTup7, asTup8, asTup9, asAgg2, asAgg3, asAgg4, asAgg5, asAgg6, asAgg7, asAgg8, asAgg9, asAgg12, getD0, getD1, getD2, getD3, getD4, getD5, getD6, getD7, getD8, getD9, getD10, getD11, getD12, getD13, getD14, getD15, getD16, getD17, getD18, getD19, Bool.not_true, Bool.not_false, Bool.false_eq_true, Bool.true_eq_false, ↓reduceIte, decide_true, decide_false, Option.isNone_some, Option.isNone_none, Option.isSome_some, Option.isSome_none, beq_self_eq_true, bne_self_eq_false, Bool.and_true, Bool.true_and, Bool.and_false, Bool.false_and, not_true_eq_false, not_false_eq_true]
    have k8 : decide (r.part < 0) = false := by simp; omega
    by_cases h9 : 3 < r.part
    · have hb : decide (badG r) = true := by simp [badG, h9]
      have k9 : decide (r.part > 3) = true := by simp; omega
      rw [hb]
      simp only [c0, k1, addr_add, Nat.zero_add, c1, k3, k4, c2, k5, c5, k7, c4, k8, k9, obs, asP_pointer, asB_bool, asI_int, asS_string, asSl_slice, asM_map, asTup0, asTup1, asTup2, asTup3, asTup4, asTup5, asTup6, asTup7, asTup8, asTup9, asAgg2, asAgg3, asAgg4, asAgg5, asAgg6, asAgg7, asAgg8, asAgg9, asAgg12, getD0, getD1, getD2, getD3, getD4, getD5, getD6, getD7, getD8, getD9, getD10, getD11, getD12, getD13, getD14, getD15, getD16, getD17, getD18, getD19, Bool.not_true, Bool.not_false, Bool.false_eq_true, Bool.true_eq_false, ↓reduceIte, decide_true, decide_false, Option.isNone_some, Option.isNone_none, Option.isSome_some, Option.isSome_none, beq_self_eq_true, bne_self_eq_false, Bool.and_true, Bool.true_and, Bool.and_false, Bool.false_and, not_true_eq_false, not_false_eq_true]
    have k9 : decide (r.part > 3) = false := by simp; omega
    by_cases h6 : 8 < r.mem.length
    · have hb : decide (badG r) = true := by simp [badG, h6]
      have k6 : decide ((q.2.1 : Int) > 8) = true := by simp; omega
      rw [hb]
      simp only [c0, k1, addr_add, Nat.zero_add, c1, k3, k4, c2, k5, c5, k7, c4, k8, k9, c3, k6, obs, asP_pointer, asB_bool, asI_int, asS_string, asSl_slice, asM_map, asTup0, asTup1, asTup2, asTup3, asTup4, asTup5, asTup6, asTup7, asTup8, asTup9, asAgg2, asAgg3, asAgg4, asAgg5, asAgg6, asAgg7, asAgg8, asAgg9, asAgg12, getD0, getD1, getD2, getD3, getD4, getD5, getD6, getD7, getD8, getD9, getD10, getD11, getD12, getD13, getD14, getD15, getD16, getD17, getD18, getD19, Bool.not_true, Bool.not_false, Bool.false_eq_true, Bool.true_eq_false, ↓reduceIte, decide_true, decide_false, Option.isNone_some, Option.isNone_none, Option.isSome_some, Option.isSome_none, beq_self_eq_true, bne_self_eq_false, Bool.and_true, Bool.true_and, Bool.and_false, Bool.false_and, not_true_eq_false, not_false_eq_true]
    have k6 : decide ((q.2.1 : Int) > 8) = false := by simp; omega
    have hb : decide (badG r) = !riseB (-1) r.mem := by
      cases hr : riseB (-1) r.mem <;> simp [badG, hr, z1, z2, h3, h4, h5, h6, h7, h8, h9]
    obtain ⟨e, t, g, hQ⟩ := loopl58
    rw [hb]
    simp only [c0, k1, addr_add, Nat.zero_add, c1, k3, k4, c2, k5, c5, k7, c4, k8, k9, c3, k6, obs, asP_pointer, asB_bool, asI_int, asS_string, asSl_slice, asM_map, asTup0, asTup1, asTup2, asTup3, asTup4, asTup5, asTup6, asTup7, asTup8, asTup9, asAgg2, asAgg3, asAgg4, asAgg5, asAgg6, asAgg7, asAgg8, asAgg9, asAgg12, getD0, getD1, getD2, getD3, getD4, getD5, getD6, getD7, getD8, getD9, getD10, getD11, getD12, getD13, getD14, getD15, getD16, getD17, getD18, getD19, Bool.not_true, Bool.not_false, Bool.false_eq_true, Bool.true_eq_false, ↓reduceIte, decide_true, decide_false, Option.isNone_some, Option.isNone_none, Option.isSome_some, Option.isSome_none, beq_self_eq_true, bne_self_eq_false, Bool.and_true, Bool.true_and, Bool.and_false, Bool.false_and, not_true_eq_false, not_false_eq_true]
    rcases hQ with ⟨rfl, ht, hr⟩ | ⟨rfl, hr⟩
    · rw [g28_l58_ret_of g, g28_l58_ret, ht, hr]; rfl
    · rw [g28_l58_x0_of g, g28_l58_x0, hr]; rfl
  · have k1 : (r.k != 1) = true := by simp [h0]
    by_cases h2 : r.k = 2
    case neg =>
      have hb : decide (badG r) = true := by
        have h12 : r.k < 1 ∨ 2 < r.k := by omega
        rcases h12 with h | h <;> simp [badG, h]
      have k2 : (r.k != 2) = true := by simp [h2]
      rw [hb]
      simp only [c0, k1, k2, obs, asP_pointer, asB_bool, asI_int, asS_string, asSl_slice, asM_map, asTup0, asTup1, asTup2, asTup3, asTup4, asTup5, asTup6, asTup7, asTup8, asTup9, asAgg2, asAgg3, asAgg4, asAgg5, asAgg6, asAgg7, asAgg8, asAgg9, asAgg12, getD0, getD1, getD2, getD3, getD4, getD5, getD6, getD7, getD8, getD9, getD10, getD11, getD12, getD13, getD14, getD15, getD16, getD17, getD18, getD19, Bool.not_true, Bool.not_false, Bool.false_eq_true, Bool.true_eq_false, ↓reduceIte, decide_true, decide_false, Option.isNone_some, Option.isNone_none, Option.isSome_some, Option.isSome_none, beq_self_eq_true, bne_self_eq_false, Bool.and_true, Bool.true_and, Bool.and_false, Bool.false_and, not_true_eq_false, not_false_eq_true]
    have k2 : (r.k != 2) = false := by simp [h2]
    have z1 : ¬ r.k < 1 := by omega
    have z2 : ¬ 2 < r.k := by omega
    by_cases h3 : r.grp < 0
    · have hb : decide (badG r) = true := by simp [badG, h3]
      have k3 : decide (r.grp < 0) = true := by simp; omega
      rw [hb]
      simp only [c0, k1, k2, addr_add, Nat.zero_add, c1, k3, obs, asP_pointer, asB_bool, asI_int, asS_string, asSl_slice, asM_map, asTup0, asTup1, asTup2, asTup3, asTup4, asTup5, asTup6, asTup7, asTup8, asTup9, asAgg2, asAgg3, asAgg4, asAgg5, asAgg6, asAgg7, asAgg8, asAgg9, asAgg12, getD0, getD1, getD2, getD3, getD4, getD5, getD6, getD7, getD8, getD9, getD10, getD11, getD12, getD13, getD14, getD15, getD16, getD17, getD18, getD19, Bool.not_true, Bool.not_false, Bool.false_eq_true, Bool.true_eq_false, ↓reduceIte, decide_true, decide_false, Option.isNone_some, Option.isNone_none, Option.isSome_some, Option.isSome_none, beq_self_eq_true, bne_self_eq_false, Bool.and_true, Bool.true_and, Bool.and_false, Bool.false_and, not_true_eq_false, not_false_eq_true]
    have k3 : decide (r.grp < 0) = false := by simp; omega
    by_cases h4 : 7 < r.grp
    · have hb : decide (badG r) = true := by simp [badG, h4]
      have k4 : decide (r.grp > 7) = true := by simp; omega
      rw [hb]
      simp only [c0, k1, k2, addr_add, Nat.zero_add, c1, k3, k4, obs, asP_pointer, asB_bool, asI_int, asS_string, asSl_slice, asM_map, asTup0, asTup1, asTup2, asTup3, asTup4, asTup5, asTup6, asTup7, asTup8, asTup9, asAgg2, asAgg3, asAgg4, asAgg5, asAgg6, asAgg7, asAgg8, asAgg9, asAgg12, getD0, getD1, getD2, getD3, getD4, getD5, getD6, getD7, getD8, getD9, getD10, getD11, getD12, getD13, getD14, getD15, getD16, getD17, getD18, getD19, Bool.not_true, Bool.not_false, Bool.false_eq_true, Bool.true_eq_false, ↓reduceIte, decide_true, decide_false, Option.isNone_some, Option.isNone_none, Option.isSome_some, Option.isSome_none, beq_self_eq_true, bne_self_eq_false, Bool.and_true, Bool.true_and, Bool.and_false, Bool.false_and, not_true_eq_false, not_false_eq_true]
    have k4 : decide (r.grp > 7) = false := by simp; omega
    by_cases h5 : r.gen < 0
    · have hb : decide (badG r) = true := by simp [badG, h5]
      have k5 : decide (r.gen < 0) = true := by simp; omega
      rw [hb]
      simp only [c0, k1, k2, addr_add, Nat.zero_add, c1, k3, k4, c2, k5, obs, asP_pointer, asB_bool, asI_int, asS_string, asSl_slice, asM_map, asTup0, asTup1, asTup2, asTup3, asTup4, asTup5, asTup6, asTup7, asTup8, asTup9, asAgg2, asAgg3, asAgg4, asAgg5, asAgg6, asAgg7, asAgg8, asAgg9, asAgg12, getD0, getD1, getD2, getD3, getD4, getD5, getD6, getD7, getD8, getD9, getD10, getD11, getD12, getD13, getD14, getD15, getD16, getD17, getD18, getD19, Bool.not_true, Bool.not_false, Bool.false_eq_true, Bool.true_eq_false, ↓reduceIte, decide_true, decide_false, Option.isNone_some, Option.isNone_none, Option.isSome_some, Option.isSome_none, beq_self_eq_true, bne_self_eq_false, Bool.and_true, Bool.true_and, Bool.and_false, Bool.false_and, not_true_eq_false, not_false_eq_true]
    have k5 : decide (r.gen < 0) = false := by simp; omega
    by_cases h7 : r.off < 0
    · have hb : decide (badG r) = true := by simp [badG, h7]
      have k7 : decide (r.off < 0) = true := by simp; omega
      rw [hb]
      simp only [c0, k1, k2, addr_add, Nat.zero_add, c1, k3, k4, c2, k5, c5, k7, obs, asP_pointer, asB_bool, asI_int, asS_string, asSl_slice, asM_map, asTup0, asTup1, asTup2, asTup3, asTup4, asTup5, asTup6, asTup7, asTup8, asTup9, asAgg2, asAgg3, asAgg4, asAgg5, asAgg6, asAgg7, asAgg8, asAgg9, asAgg12, getD0, getD1, getD2, getD3, getD4, getD5, getD6, getD7, getD8, getD9, getD10, getD11, getD12, getD13, getD14, getD15, getD16, getD17, getD18, getD19, Bool.not_true, Bool.not_false, Bool.false_eq_true, Bool.true_eq_false, ↓reduceIte, decide_true, decide_false, Option.isNone_some, Option.isNone_none, Option.isSome_some, Option.isSome_none, beq_self_eq_true, bne_self_eq_false, Bool.and_true, Bool.true_and, Bool.and_false, Bool.false_and, not_true_eq_false, not_false_eq_true]
    have k7 : decide (r.off < 0) = false := by simp; omega
    by_cases h8 : r.part < 0
    · have hb : decide (badG r) = true := by simp [badG, h8]
      have k8 : decide (r.part < 0) = true := by simp; omega
      rw [hb]
      simp only [c0, k1, k2, addr_add, Nat.zero_add, c1, k3, k4, c2, k5, c5, k7, c4, k8, obs, asP_pointer, asB_bool, asI_int, asS_string, asSl_slice, asM_map, asTup0, asTup1, asTup2, asTup3, asTup4, asTup5, asTup6, asTup7, asTup8, asTup9, asAgg2, asAgg3, asAgg4, asAgg5, asAgg6, asAgg7, asAgg8, asAgg9, asAgg12, getD0, getD1, getD2, getD3, getD4, getD5, getD6, getD7, getD8, getD9, getD10, getD11, getD12, getD13, getD14, getD15, getD16, getD17, getD18, getD19, Bool.not_true, Bool.not_false, Bool.false_eq_true, Bool.true_eq_false, ↓reduceIte, decide_true, decide_false, Option.isNone_some, Option.isNone_none, Option.isSome_some, Option.isSome_none, beq_self_eq_true, bne_self_eq_false, Bool.and_true, Bool.true_and, Bool.and_false, Bool.false_and, not_true_eq_false, not_false_eq_true]
    have k8 : decide (r.part < 0) = false := by simp; omega
    by_cases h9 : 3 < r.part
    · have hb : decide (badG r) = true := by simp [badG, h9]
      have k9 : decide (r.part > 3) = true := by simp; omega
      rw [hb]
      simp only [c0, k1, k2, addr_add, Nat.zero_add, c1, k3, k4, c2, k5, c5, k7, c4, k8, k9, obs, asP_pointer, asB_bool, asI_int, asS_string, asSl_slice, asM_map, asTup0, asTup1, asTup2, asTup3, asTup4, asTup5, asTup6, asTup7, asTup8, asTup9, asAgg2, asAgg3, asAgg4, asAgg5, asAgg6, asAgg7, asAgg8, asAgg9, asAgg12, getD0, getD1, getD2, getD3, getD4, getD5, getD6, getD7, getD8, getD9, getD10, getD11, getD12, getD13, getD14, getD15, getD16, getD17, getD18, getD19, Bool.not_true, Bool.not_false, Bool.false_eq_true, Bool.true_eq_false, ↓reduceIte, decide_true, decide_false, Option.isNone_some, Option.isNone_none, Option.isSome_some, Option.isSome_none, beq_self_eq_true, bne_self_eq_false, Bool.and_true, Bool.true_and, Bool.and_false, Bool.false_and, not_true_eq_false, not_false_eq_true]
    have k9 : decide (r.part > 3) = false := by simp; omega
    by_cases h6 : 8 < r.mem.length
    · have hb : decide (badG r) = true := by simp [badG, h6]
      have k6 : decide ((q.2.1 : Int) > 8) = true := by simp; omega
      rw [hb]
      simp only [c0, k1, k2, addr_add, Nat.zero_add, c1, k3, k4, c2, k5, c5, k7, c4, k8, k9, c3, k6, obs, asP_pointer, asB_bool, asI_int, asS_string, asSl_slice, asM_map, asTup0, asTup1, asTup2, asTup3, asTup4, asTup5, asTup6, asTup7, asTup8, asTup9, asAgg2, asAgg3, asAgg4, asAgg5, asAgg6, asAgg7, asAgg8, asAgg9, asAgg12, getD0, getD1, getD2, getD3, getD4, getD5, getD6, getD7, getD8, getD9, getD10, getD11, getD12, getD13, getD14, getD15, getD16, getD17, getD18, getD19, Bool.not_true, Bool.not_false, Bool.false_eq_true, Bool.true_eq_false, ↓reduceIte, decide_true, decide_false, Option.isNone_some, Option.isNone_none, Option.isSome_some, Option.isSome_none, beq_self_eq_true, bne_self_eq_false, Bool.and_true, Bool.true_and, Bool.and_false, Bool.false_and, not_true_eq_false, not_false_eq_true]
    have k6 : decide ((q.2.1 : Int) > 8) = false := by simp; omega
    have hb : decide (badG r) = !riseB (-1) r.mem := by
      cases hr : riseB (-1) r.mem <;> simp [badG, hr, z1, z2, h3, h4, h5, h6, h7, h8, h9]
    obtain ⟨e, t, g, hQ⟩ := loopl20
    rw [hb]
    simp only [c0, k1, k2, addr_add, Nat.zero_add, c1, k3, k4, c2, k5, c5, k7, c4, k8, k9, c3, k6, obs, asP_pointer, asB_bool, asI_int, asS_string, asSl_slice, asM_map, asTup0, asTup1, asTup2, asTup3, asTup4, asTup5, asTup6, asTup7, asTup8, asTup9, asAgg2, asAgg3, asAgg4, asAgg5, asAgg6, asAgg7, asAgg8, asAgg9, asAgg12, getD0, getD1, getD2, getD3, getD4, getD5, getD6, getD7, getD8, getD9, getD10, getD11, getD12, getD13, getD14, getD15, getD16, getD17, getD18, getD19, Bool.not_true, Bool.not_false, Bool.false_eq_true, Bool.true_eq_false, ↓reduceIte, decide_true, decide_false, Option.isNone_some, Option.isNone_none, Option.isSome_some, Option.isSome_none, beq_self_eq_true, bne_self_eq_false, Bool.and_true, Bool.true_and, Bool.and_false, Bool.false_and, not_true_eq_false, not_false_eq_true]
    rcases hQ with ⟨rfl, ht, hr⟩ | ⟨rfl, hr⟩
    · rw [g28_l20_ret_of g, g28_l20_ret, ht, hr]; rfl
    · rw [g28_l20_x0_of g, g28_l20_x0, hr]; rfl

theorem sameRec17 (w : World) (r : GV) {q1 q2 : ShT} (hu : SlI .i64 w q1 r.mem) (hv : SlI .i64 w q2 r.mem) (hl : r.mem.length ≤ 4611686018427387904) : ∃ w', callF Try.prog 17 #[r.arg q1, r.arg q2] w = some (.bool true, w') ∧ Fr [] w w' := by
  have fa : Fr [] w (w.alloc (.cells #[.int .i64 r.k, .int .i64 r.grp, .int .i64 r.gen, .slice q1.1 q1.2.1 q1.2.2, .int .i64 r.part, .int .i64 r.off] 27)) := Fr.alloc _
  have ba := Blk.new w (r.cs q1) 27
  change Blk (w.alloc (.cells #[.int .i64 r.k, .int .i64 r.grp, .int .i64 r.gen, .slice q1.1 q1.2.1 q1.2.2, .int .i64 r.part, .int .i64 r.off] 27)) _ _ _ at ba
  obtain ⟨w1, hw1⟩ : ∃ w1, w.alloc (.cells #[.int .i64 r.k, .int .i64 r.grp, .int .i64 r.gen, .slice q1.1 q1.2.1 q1.2.2, .int .i64 r.part, .int .i64 r.off] 27) = w1 := ⟨_, rfl⟩
  rw [hw1] at fa ba
  have fb : Fr [] w1 (w1.alloc (.cells #[.int .i64 r.k, .int .i64 r.grp, .int .i64 r.gen, .slice q2.1 q2.2.1 q2.2.2, .int .i64 r.part, .int .i64 r.off] 27)) := Fr.alloc _
  have bb := Blk.new w1 (r.cs q2) 27
  change Blk (w1.alloc (.cells #[.int .i64 r.k, .int .i64 r.grp, .int .i64 r.gen, .slice q2.1 q2.2.1 q2.2.2, .int .i64 r.part, .int .i64 r.off] 27)) _ _ _ at bb
  obtain ⟨w2, hw2⟩ : ∃ w2, w1.alloc (.cells #[.int .i64 r.k, .int .i64 r.grp, .int .i64 r.gen, .slice q2.1 q2.2.1 q2.2.2, .int .i64 r.part, .int .i64 r.off] 27) = w2 := ⟨_, rfl⟩
  rw [hw2] at fb bb
  have ba2 := ba.fr fb (by simp)
  have F : Fr [] w w2 := (Fr.mono (Fr.app fa fb) (by have z0_ := Fr.size fa; have z1_ := Fr.size fb; intro y_ hy_ hl_; grind [blkOf]))
  obtain ⟨w3, e3, f3⟩ := same35 (hu.fr3 F (by simp)) (hv.fr3 F (by simp)) hl
  have a0 : w2.cell? ⟨w.heap.size, 0, none⟩ = some (.int .i64 r.k) := ba2.cell 0
  have a1 : w2.cell? ⟨w.heap.size, 1, none⟩ = some (.int .i64 r.grp) := ba2.cell 1
  have a2 : w2.cell? ⟨w.heap.size, 2, none⟩ = some (.int .i64 r.gen) := ba2.cell 2
  have a3 : w2.cell? ⟨w.heap.size, 4, none⟩ = some (.int .i64 r.part) := ba2.cell 4
  have a4 : w2.cell? ⟨w.heap.size, 5, none⟩ = some (.int .i64 r.off) := ba2.cell 5
  have a5 : w2.cell? ⟨w.heap.size, 3, none⟩ = some (.slice q1.1 q1.2.1 q1.2.2) := ba2.cell 3
  have b0 : w2.cell? ⟨w1.heap.size, 0, none⟩ = some (.int .i64 r.k) := bb.cell 0
  have b1 : w2.cell? ⟨w1.heap.size, 1, none⟩ = some (.int .i64 r.grp) := bb.cell 1
  have b2 : w2.cell? ⟨w1.heap.size, 2, none⟩ = some (.int .i64 r.gen) := bb.cell 2
  have b3 : w2.cell? ⟨w1.heap.size, 4, none⟩ = some (.int .i64 r.part) := bb.cell 4
  have b4 : w2.cell? ⟨w1.heap.size, 5, none⟩ = some (.int .i64 r.off) := bb.cell 5
  have b5 : w2.cell? ⟨w1.heap.size, 3, none⟩ = some (.slice q2.1 q2.2.1 q2.2.2) := bb.cell 3
  have s1 : ∀ z : Int, (z == z) = true := fun z => by simp
  refine ⟨w3, g17_call ?_, (Fr.mono (Fr.app F f3) (by have z0_ := Fr.size F; have z1_ := Fr.size f3; intro y_ hy_ hl_; grind [blkOf]))⟩
  unfold g17
  rw [hw1, hw2]
  simp only [a0, b0, s1, addr_add, Nat.zero_add, a1, b1, a2, b2, a3, b3, a4, b4, a5, b5, e3, obs, asP_pointer, asB_bool, asI_int, asS_string, asSl_slice, asM_map, asTup0, asTup1, asTup2, asTup3, asTup4, asTup5, asTup6, asTup7, asTup8, asTup9, asAgg2, asAgg3, asAgg4, asAgg5, asAgg6, asAgg7, asAgg8, asAgg9, asAgg12, getD0, getD1, getD2, getD3, getD4, getD5, getD6, getD7, getD8, getD9, getD10, getD11, getD12, getD13, getD14, getD15, getD16, getD17, getD18, getD19, Bool.not_true, Bool.not_false, Bool.false_eq_true, Bool.true_eq_false, ↓reduceIte, decide_true, decide_false, Option.isNone_some, Option.isNone_none, Option.isSome_some, Option.isSome_none, beq_self_eq_true, bne_self_eq_false, Bool.and_true, Bool.true_and, Bool.and_false, Bool.false_and, not_true_eq_false, not_false_eq_true]

theorem own14 (w : World) (r : GV) {q : ShT} (hu : SlI .i64 w q r.mem) (hl : r.mem.length ≤ 17592186043904) : ∃ v w', callF Try.prog 14 #[r.arg q] w = some (r.arg v, w') ∧ Own w' 3 1 v (numsV r.mem) ∧ Fr [] w w' ∧ ∀ y ∈ blkOf v, w.heap.size ≤ y := by
  have fa : Fr [] w (w.alloc (.cells #[.int .i64 r.k, .int .i64 r.grp, .int .i64 r.gen, .slice q.1 q.2.1 q.2.2, .int .i64 r.part, .int .i64 r.off] 27)) := Fr.alloc _
  have ba := Blk.new w (r.cs q) 27
  change Blk (w.alloc (.cells #[.int .i64 r.k, .int .i64 r.grp, .int .i64 r.gen, .slice q.1 q.2.1 q.2.2, .int .i64 r.part, .int .i64 r.off] 27)) _ _ _ at ba
  obtain ⟨w1, hw1⟩ : ∃ w1, w.alloc (.cells #[.int .i64 r.k, .int .i64 r.grp, .int .i64 r.gen, .slice q.1 q.2.1 q.2.2, .int .i64 r.part, .int .i64 r.off] 27) = w1 := ⟨_, rfl⟩
  rw [hw1] at fa ba
  obtain ⟨bz, fz⟩ := zero27 w1
  obtain ⟨w2, hw2⟩ : ∃ w2, w1.alloc (.cells #[.int .i64 0, .int .i64 0, .int .i64 0, .slice none 0 0, .int .i64 0, .int .i64 0] 27) = w2 := ⟨_, rfl⟩
  rw [hw2] at bz fz
  have F2 : Fr [] w w2 := (Fr.mono (Fr.app fa fz) (by have z0_ := Fr.size fa; have z1_ := Fr.size fz; intro y_ hy_ hl_; grind [blkOf]))
  obtain ⟨v, w3, e3, o3, f3, n3⟩ := copyN (hu.fr3 F2 (by simp)) hl
  have fe : Fr [] w2 (w2.alloc (.cells #[] 3)) := Fr.alloc _
  have c5 : (w2.alloc (.cells #[] 3)).cell? ⟨w.heap.size, 3, none⟩ = some (.slice q.1 q.2.1 q.2.2) := ((ba.fr fz (by simp)).fr fe (by simp)).cell 3
  have b3 := (ba.fr fz (by simp)).fr f3 (by simp)
  have z3 := bz.fr f3 (by simp)
  have z1 := fa.size
  have z2 := fz.size
  obtain ⟨w4, hw4⟩ : ∃ w4, w3.setCell ⟨w.heap.size, 3, none⟩ (.slice v.1 v.2.1 v.2.2) = w4 := ⟨_, rfl⟩
  have s4 : st1 w3 ⟨w.heap.size, 3, none⟩ (.slice v.1 v.2.1 v.2.2) = some w4 := by rw [← hw4]; exact b3.st1 (by simp [GV.cs]) rfl
  have b4 : Blk w4 w.heap.size (r.cs v) 27 := by rw [← hw4]; exact b3.set 3 _
  have f4 : Fr [w.heap.size] w3 w4 := by rw [← hw4]; exact Fr.setCell
  have l4 := b4.ldN (n := 6) rfl
  have lb := ba.lt
  have z4 := z3.fr f4 (by simp; omega)
  have F4 : Fr [] w w4 := ((Fr.mono (Fr.app F2 f3) (by have z0_ := Fr.size F2; have z1_ := Fr.size f3; intro y_ hy_ hl_; grind [blkOf])) : Fr [] w w3).app f4 |>.mono (by intro y hy hl; simp at hy; omega)
  obtain ⟨w', r1, r2, r3, r4⟩ := retG z4 rfl F4 z1 r v
  have o4 := (o3.fr f4 (by intro y hy hm; simp at hm; have := n3 y hy; omega)).fr r4 (by intro y hy hm; simp at hm; have := n3 y hy; have := bz.lt; omega)
  refine ⟨v, w', g14_call ?_, o4, r3, fun y hy => by have := n3 y hy; omega⟩
  unfold g14
  simp only [hw1, hw2]
  simp only [GV.cs] at l4
  simp only [addr_add, Nat.zero_add, c5, e3, s4, l4, r1, r2, obs, asP_pointer, asB_bool, asI_int, asS_string, asSl_slice, asM_map, asTup0, asTup1, asTup2, asTup3, asTup4, asTup5, asTup6, asTup7, asTup8, asTup9, asAgg2, asAgg3, asAgg4, asAgg5, asAgg6, asAgg7, asAgg8, asAgg9, asAgg12, getD0, getD1, getD2, getD3, getD4, getD5, getD6, getD7, getD8, getD9, getD10, getD11, getD12, getD13, getD14, getD15, getD16, getD17, getD18, getD19, Bool.not_true, Bool.not_false, Bool.false_eq_true, Bool.true_eq_false, ↓reduceIte, decide_true, decide_false, Option.isNone_some, Option.isNone_none, Option.isSome_some, Option.isSome_none, beq_self_eq_true, bne_self_eq_false, Bool.and_true, Bool.true_and, Bool.and_false, Bool.false_and, not_true_eq_false, not_false_eq_true]
  rfl
end
end Go.Proofs.Ytcakijeoeankfaa
