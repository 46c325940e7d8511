/-
  WalB: lemmas on what Go functions of this seat come to (for whatever arguments, as each says). No condition but those that stand in each lemma.
-/
import Derived.Test.YtnflklkjjjlpaaaWalA
namespace Go.Proofs.Ytnflklkjjjlpaaa
open Go Go.Ev Go.Crc
set_option maxRecDepth 100000
set_option linter.unusedVariables false
set_option linter.unusedSimpArgs false

theorem t22 : TSl Try.prog 22 31 1 24 := tsl_of Try.underlying22 (by kernel_rfl)

/-- is a payload too long? -/
def longP (ps : List (List Int)) : Bool := decide (∃ p ∈ ps, p.length > 4096)

section
variable {w : World} {D : Nat → Prop} {b : Nat} {A : List (ByteArray × FV)} {fuse : Int} {dead : Bool}

theorem long12 {v : Option Addr × Nat × Nat} {ps : List (List Int)} {B : Nat → Prop} (h : Lst .u8 w B v ps) (hn : ps.length ≤ 9223372036854775807) : callF Try.prog 12 #[.slice v.1 v.2.1 v.2.2] w = some (.bool (longP ps), w) := by
  have hlen := h.len
  obtain ⟨e, t, w', g1, rfl, g2⟩ := loopS_rule (b := g12_l2_b v) (I := fun k s x => s = (false, (k : Int)) ∧ x = w ∧ ∀ p ∈ ps.take k, p.length ≤ 4096)
    (Q := fun e s x => x = w ∧ ((e = .exit 0 ∧ longP ps = false) ∨ (e = .ret ∧ s.1 = true ∧ longP ps = true))) (n := ps.length)
    (fun k s x hk ⟨hs, hx, hp⟩ => by
      subst hs hx
      obtain ⟨a, q, i1, c1, r1, _, _⟩ := h.get hk
      have hql := r1.1
      have hc : (k : Int) < (v.2.1 : Int) := by omega
      have hs := wrap_succ (n := k) (by omega)
      by_cases hg : (q.2.1 : Int) > 4096
      · refine ⟨.ret, (true, (k : Int)), x, ?_, .inr ⟨by simp, rfl, .inr ⟨rfl, rfl, ?_⟩⟩⟩
        · unfold g12_l2_b
          simp only [hc, i1, c1, hg, Option.bind_some, asP_pointer, asB_bool, asI_int, asS_string, asSl_slice, asM_map, asTup0, asTup1, asTup2, asTup3, asTup4, asTup5, getD0, getD1, getD2, getD3, getD4, Bool.not_true, Bool.not_false, Bool.false_eq_true, Bool.true_eq_false, ↓reduceIte, decide_true, decide_false, Option.isNone_some, Option.isNone_none, Option.isSome_some, Option.isSome_none, beq_self_eq_true, bne_self_eq_false, Bool.and_true, Bool.true_and, Bool.and_false, Bool.false_and, not_true_eq_false, not_false_eq_true]
        · unfold longP
          simp only [decide_eq_true_eq]
          exact ⟨ps[k], List.getElem_mem hk, by omega⟩
      · refine ⟨.normal, (false, ((k + 1 : Nat) : Int)), x, ?_, .inl ⟨rfl, rfl, rfl, ?_⟩⟩
        · unfold g12_l2_b
          simp only [hc, i1, c1, hg, hs, Option.bind_some, asP_pointer, asB_bool, asI_int, asS_string, asSl_slice, asM_map, asTup0, asTup1, asTup2, asTup3, asTup4, asTup5, getD0, getD1, getD2, getD3, getD4, Bool.not_true, Bool.not_false, Bool.false_eq_true, Bool.true_eq_false, ↓reduceIte, decide_true, decide_false, Option.isNone_some, Option.isNone_none, Option.isSome_some, Option.isSome_none, beq_self_eq_true, bne_self_eq_false, Bool.and_true, Bool.true_and, Bool.and_false, Bool.false_and, not_true_eq_false, not_false_eq_true]
        · intro p hp'
          rw [List.take_succ_eq_append_getElem hk, List.mem_append, List.mem_singleton] at hp'
          rcases hp' with hp' | hp'
          · exact hp p hp'
          · subst hp'; omega)
    (fun s x ⟨hs, hx, hp⟩ => by
      subst hs hx
      rw [List.take_length] at hp
      have hc : ¬ ((ps.length : Nat) : Int) < (v.2.1 : Int) := by omega
      refine ⟨.exit 0, (false, ((ps.length : Nat) : Int)), x, ?_, by simp, rfl, .inl ⟨rfl, ?_⟩⟩
      · unfold g12_l2_b
        simp only [hc, Option.bind_some, asP_pointer, asB_bool, asI_int, asS_string, asSl_slice, asM_map, asTup0, asTup1, asTup2, asTup3, asTup4, asTup5, getD0, getD1, getD2, getD3, getD4, Bool.not_true, Bool.not_false, Bool.false_eq_true, Bool.true_eq_false, ↓reduceIte, decide_true, decide_false, Option.isNone_some, Option.isNone_none, Option.isSome_some, Option.isSome_none, beq_self_eq_true, bne_self_eq_false, Bool.and_true, Bool.true_and, Bool.and_false, Bool.false_and, not_true_eq_false, not_false_eq_true]
      · unfold longP
        simp only [decide_eq_false_iff_not]
        rintro ⟨p, h1, h2⟩
        have := hp p h1; omega)
    (Nat.zero_le _) (k := 0) (s := (false, 0)) (w := w) ⟨rfl, rfl, by simp⟩
  refine g12_call ?_
  rcases g2 with ⟨rfl, h1⟩ | ⟨rfl, h1, h2⟩
  · unfold g12
    simp only [g12_l2_x0_of g1, g12_l2_x0, h1, Option.bind_some, asP_pointer, asB_bool, asI_int, asS_string, asSl_slice, asM_map, asTup0, asTup1, asTup2, asTup3, asTup4, asTup5, getD0, getD1, getD2, getD3, getD4, Bool.not_true, Bool.not_false, Bool.false_eq_true, Bool.true_eq_false, ↓reduceIte, decide_true, decide_false, Option.isNone_some, Option.isNone_none, Option.isSome_some, Option.isSome_none, beq_self_eq_true, bne_self_eq_false, Bool.and_true, Bool.true_and, Bool.and_false, Bool.false_and, not_true_eq_false, not_false_eq_true]
  · unfold g12
    simp only [g12_l2_ret_of g1, g12_l2_ret, h1, h2, Option.bind_some, asP_pointer, asB_bool, asI_int, asS_string, asSl_slice, asM_map, asTup0, asTup1, asTup2, asTup3, asTup4, asTup5, getD0, getD1, getD2, getD3, getD4, Bool.not_true, Bool.not_false, Bool.false_eq_true, Bool.true_eq_false, ↓reduceIte, decide_true, decide_false, Option.isNone_some, Option.isNone_none, Option.isSome_some, Option.isSome_none, beq_self_eq_true, bne_self_eq_false, Bool.and_true, Bool.true_and, Bool.and_false, Bool.false_and, not_true_eq_false, not_false_eq_true]

/-- payloads of their own -/
theorem copied25 {v : Option Addr × Nat × Nat} {ps : List (List Int)} {B : Nat → Prop} (h : Lst .u8 w B v ps) (hB : ∀ y, B y → y < w.heap.size) (hn : ps.length ≤ 4194304) (hl : ∀ p ∈ ps, p.length ≤ 1073741824) :
    ∃ q w', callF Try.prog 25 #[.slice v.1 v.2.1 v.2.2] w = some (.slice q.1 q.2.1 q.2.2, w') ∧ LsO 31 (fun y => w.heap.size ≤ y) (ElO 5 .u8 (fun y => w.heap.size ≤ y)) w' q ps ∧ Fr [] w w' := by
  have hlen := h.len
  have hml : maxLen = 9223372036854775807 := by decide
  obtain ⟨t, w', g1, q, rfl, g2, g3⟩ := loopS_count (b := g25_l2_b v) (I := fun k s x => ∃ q, s = (q, (k : Int)) ∧ LsO 31 (fun y => w.heap.size ≤ y) (ElO 5 .u8 (fun y => w.heap.size ≤ y)) x q (ps.take k) ∧ Fr [] w x) (n := ps.length)
    (fun k s x hk ⟨q, hs, hL, hf⟩ => by
      subst hs
      obtain ⟨a, q7, i1, c1, r1, _, b1⟩ := (h.fr hf (by simp)).get hk
      have hql := r1.1
      have hpl := hl _ (List.getElem_mem hk)
      have hc : (k : Int) < (v.2.1 : Int) := by omega
      have hs := wrap_succ (n := k) (by omega)
      obtain ⟨q9, x1, e1, o1, f1, h1, _⟩ := app_empty t28 r1.slC oc8 (by omega) (by omega) 31 #[false, false]
      have z0 := hf.size
      have z1 := f1.size
      have hL1 := hL.fr (stays_o _ _ _) f1 (by simp)
      obtain ⟨q11, x2, e2, L2, f2, h2⟩ := push22 (stays_o 5 .u8 _) (p := ps[k]) hL1 ⟨o1, fun y hy => by have := h1 y hy; omega⟩
        (fun q' p' w' ⟨k1, k2⟩ kf => ⟨k1.fr kf (by obtain ⟨qs, h1, _⟩ := hL1; exact Own.apart k1 h1 (by decide)), k2⟩) (by rw [List.length_take]; omega) (by intro y hy; omega) #[false, false]
      have hbl : ∀ y ∈ blkOf q, w.heap.size ≤ y := by obtain ⟨qs, _, _, h3, _⟩ := hL; exact h3
      refine ⟨(q11, ((k + 1 : Nat) : Int)), x2, ?_, q11, rfl, ?_, (Fr.mono (Fr.app (Fr.app hf f1) f2) (by have z0_ := Fr.size hf; have z1_ := Fr.size f1; have z2_ := Fr.size f2; intro y_ hy_ hl_; grind [blkOf]))⟩
      · unfold g25_l2_b
        simp only [hc, i1, c1, e1, e2, hs, Option.bind_some, asP_pointer, asB_bool, asI_int, asS_string, asSl_slice, asM_map, asTup0, asTup1, asTup2, asTup3, asTup4, asTup5, getD0, getD1, getD2, getD3, getD4, Bool.not_true, Bool.not_false, Bool.false_eq_true, Bool.true_eq_false, ↓reduceIte, decide_true, decide_false, Option.isNone_some, Option.isNone_none, Option.isSome_some, Option.isSome_none, beq_self_eq_true, bne_self_eq_false, Bool.and_true, Bool.true_and, Bool.and_false, Bool.false_and, not_true_eq_false, not_false_eq_true]
      · rw [List.take_succ_eq_append_getElem hk]; exact L2)
    (fun s x ⟨q, hs, hL, hf⟩ => by
      subst hs
      have hc : ¬ ((ps.length : Nat) : Int) < (v.2.1 : Int) := by omega
      unfold g25_l2_b
      simp only [hc, Option.bind_some, asP_pointer, asB_bool, asI_int, asS_string, asSl_slice, asM_map, asTup0, asTup1, asTup2, asTup3, asTup4, asTup5, getD0, getD1, getD2, getD3, getD4, Bool.not_true, Bool.not_false, Bool.false_eq_true, Bool.true_eq_false, ↓reduceIte, decide_true, decide_false, Option.isNone_some, Option.isNone_none, Option.isSome_some, Option.isSome_none, beq_self_eq_true, bne_self_eq_false, Bool.and_true, Bool.true_and, Bool.and_false, Bool.false_and, not_true_eq_false, not_false_eq_true])
    (Nat.zero_le _) (k := 0) (s := ((none, 0, 0), 0)) (w := w) ⟨(none, 0, 0), rfl, by rw [List.take_zero]; exact LsO.nil, Fr.refl _ _⟩
  rw [List.take_length] at g2
  refine ⟨q, w', g25_call ?_, g2, g3⟩
  unfold g25
  simp only [g25_l2_x0_of g1, g25_l2_x0, Option.bind_some, asP_pointer, asB_bool, asI_int, asS_string, asSl_slice, asM_map, asTup0, asTup1, asTup2, asTup3, asTup4, asTup5, getD0, getD1, getD2, getD3, getD4, Bool.not_true, Bool.not_false, Bool.false_eq_true, Bool.true_eq_false, ↓reduceIte, decide_true, decide_false, Option.isNone_some, Option.isNone_none, Option.isSome_some, Option.isSome_none, beq_self_eq_true, bne_self_eq_false, Bool.and_true, Bool.true_and, Bool.and_false, Bool.false_and, not_true_eq_false, not_false_eq_true]

def nextN (name : ByteArray) : ByteArray := name ++ ⟨#[126]⟩

/-- what Rewrite answers: errno, the disk -/
def rewA (A : List (ByteArray × FV)) (fuse : Int) (dead : Bool) (name : ByteArray) (ps : List (List Int)) : Int × List (ByteArray × FV) × Int × Bool :=
  if longP ps = true then (2, A, fuse, dead)
  else if (removeA A dead (nextN name)).1 ≠ 0 ∧ (removeA A dead (nextN name)).1 ≠ 4 then ((removeA A dead (nextN name)).1, (removeA A dead (nextN name)).2, fuse, dead)
  else let r := appA (removeA A dead (nextN name)).2 fuse dead (nextN name) (encs ps)
    if r.1 ≠ 0 then r
    else if (syncA r.2.1 r.2.2.2 (nextN name)).1 ≠ 0 then ((syncA r.2.1 r.2.2.2 (nextN name)).1, (syncA r.2.1 r.2.2.2 (nextN name)).2, r.2.2.1, r.2.2.2)
    else ((renameA (syncA r.2.1 r.2.2.2 (nextN name)).2 r.2.2.2 (nextN name) name).1, (renameA (syncA r.2.1 r.2.2.2 (nextN name)).2 r.2.2.2 (nextN name) name).2, r.2.2.1, r.2.2.2)

/-- the frames of a list, by a log -/
theorem rew_loop {wb fb tb : Nat} {name : ByteArray} {count : Int} (hw : Wl w wb fb tb b name count) {v : Option Addr × Nat × Nat} {ps : List (List Int)} {B : Nat → Prop} (h : Lst .u8 w B v ps) (hB : ∀ y, B y → y ≠ tb) (hB2 : ∀ y, B y → y < w.heap.size)
    (hz : ∀ p ∈ ps, Zs p) (hl : (encs ps).length ≤ 268435456) (hn : ps.length ≤ 268435456) :
    ∃ w' q e, loopS (g24_l2_b v (some ⟨wb, 0, none⟩)) (0, (none, 0, 0), 0) w = some (if longP ps = true then .ret else .exit 0, (if longP ps = true then 2 else 0, q, e), w') ∧ Wl w' wb fb tb b name count ∧ Fr [tb] w w' ∧ (∀ y ∈ blkOf q, w.heap.size ≤ y) ∧
      (longP ps = false → Own w' 5 1 q ((encs ps).map (Value.int .u8))) := by
  have hlen := h.len
  obtain ⟨nf, nt, nft⟩ := hw.ne
  have hXl := hw.lt
  obtain ⟨e, t, w', g1, g2, g3, g4⟩ := loopS_rule (b := g24_l2_b v (some ⟨wb, 0, none⟩))
    (I := fun k s x => ∃ q, s = (0, q, (k : Int)) ∧ Wl x wb fb tb b name count ∧ Fr [tb] w x ∧ (∀ y ∈ blkOf q, w.heap.size ≤ y) ∧ Own x 5 1 q ((encs (ps.take k)).map (Value.int .u8)) ∧ ∀ p ∈ ps.take k, p.length ≤ 4096)
    (Q := fun e s x => Wl x wb fb tb b name count ∧ Fr [tb] w x ∧ ∃ q m, s = (if longP ps = true then 2 else 0, q, m) ∧ (∀ y ∈ blkOf q, w.heap.size ≤ y) ∧ e = (if longP ps = true then .ret else .exit 0) ∧ (longP ps = false → Own x 5 1 q ((encs ps).map (Value.int .u8)))) (n := ps.length)
    (fun k s x hk ⟨q, hs, hwl, hf, hq, ho, hp⟩ => by
      subst hs
      have z0 := hf.size
      obtain ⟨a, q7, i1, c1, r1, _, b1⟩ := (h.fr hf (by intro y hy _ hb; simp at hy; exact hB y hb hy)).get hk
      have hc : (k : Int) < (v.2.1 : Int) := by omega
      have hs := wrap_succ (n := k) (by omega)
      have c2 : x.cell? ⟨wb, 2, none⟩ = some (.pointer (some ⟨fb, 0, none⟩)) := hwl.blk.cell 2
      obtain ⟨q8, x2, e2, o2, m2, f2, h2⟩ := encodeR hwl.fm r1 (hz _ (List.getElem_mem hk)) (fun h0 hm => hB tb (b1 h0 _ hm) rfl)
      have b2 := hwl.blk.fr f2 (by simpa using nt)
      have hwl2 : Wl x2 wb fb tb b name count := ⟨b2, m2⟩
      have ho2 := ho.fr f2 (by intro y hy hm; simp at hm; subst hm; have := hq _ hy; have := hXl _ (.inr (.inr rfl)); omega)
      by_cases hsh : ps[k].length ≤ 4096
      · have er : encR ps[k] = (enc ps[k], 0) := by unfold encR; rw [if_pos hsh]
        rw [er] at e2 o2
        have htk : ps.take (k + 1) = ps.take k ++ [ps[k]] := List.take_succ_eq_append_getElem hk
        have hle := encs_take_le ps (k + 1)
        have hel : (encs (ps.take k) ++ enc ps[k]).length ≤ 1073741824 := by
          rw [htk, encs_append, encs_one] at hle; omega
        obtain ⟨q3, x3, e3, o3, f3, h3⟩ := app8 ho2 o2.slI (by rw [List.length_append] at hel; exact hel) #[false, false]
        have h00 : ((0 : Int) != 0) = false := by decide
        have z_f2 := Fr.size f2; have z_f3 := Fr.size f3
        refine ⟨.normal, (0, q3, ((k + 1 : Nat) : Int)), x3, ?_, .inl ⟨rfl, q3, rfl, hwl2.fr f3 (fun y hy hx => by have := hq y hy; have := hXl y hx; omega), (Fr.mono (Fr.app (Fr.app hf f2) f3) (by have z0_ := Fr.size hf; have z1_ := Fr.size f2; have z2_ := Fr.size f3; intro y_ hy_ hl_; grind [blkOf])), ?_, ?_, ?_⟩⟩
        · unfold g24_l2_b
          simp only [hc, i1, c1, addr_add, Nat.zero_add, c2, e2, h00, e3, hs, Option.bind_some, asP_pointer, asB_bool, asI_int, asS_string, asSl_slice, asM_map, asTup0, asTup1, asTup2, asTup3, asTup4, asTup5, getD0, getD1, getD2, getD3, getD4, Bool.not_true, Bool.not_false, Bool.false_eq_true, Bool.true_eq_false, ↓reduceIte, decide_true, decide_false, Option.isNone_some, Option.isNone_none, Option.isSome_some, Option.isSome_none, beq_self_eq_true, bne_self_eq_false, Bool.and_true, Bool.true_and, Bool.and_false, Bool.false_and, not_true_eq_false, not_false_eq_true]
        · intro y hy
          rcases h3 with h3 | h3
          · refine hq y ?_; simp only [blkOf] at hy ⊢; rw [h3] at hy; exact hy
          · rw [h3] at hy; simp at hy; omega
        · rw [htk, encs_append, encs_one]; exact o3
        · intro p hp'
          rw [htk, List.mem_append, List.mem_singleton] at hp'
          rcases hp' with hp' | hp'
          · exact hp p hp'
          · subst hp'; exact hsh
      · have er : encR ps[k] = ([], 2) := by unfold encR; rw [if_neg hsh]
        rw [er] at e2
        have h20 : ((2 : Int) != 0) = true := by decide
        have hlong : longP ps = true := by
          unfold longP; simp only [decide_eq_true_eq]; exact ⟨ps[k], List.getElem_mem hk, by omega⟩
        refine ⟨.ret, (2, q, (k : Int)), x2, ?_, .inr ⟨by simp, hwl2, (Fr.mono (Fr.app hf f2) (by have z0_ := Fr.size hf; have z1_ := Fr.size f2; intro y_ hy_ hl_; grind [blkOf])), q, (k : Int), by rw [if_pos hlong], hq, by rw [if_pos hlong], fun h => by rw [hlong] at h; cases h⟩⟩
        unfold g24_l2_b
        simp only [hc, i1, c1, addr_add, Nat.zero_add, c2, e2, h20, Option.bind_some, asP_pointer, asB_bool, asI_int, asS_string, asSl_slice, asM_map, asTup0, asTup1, asTup2, asTup3, asTup4, asTup5, getD0, getD1, getD2, getD3, getD4, Bool.not_true, Bool.not_false, Bool.false_eq_true, Bool.true_eq_false, ↓reduceIte, decide_true, decide_false, Option.isNone_some, Option.isNone_none, Option.isSome_some, Option.isSome_none, beq_self_eq_true, bne_self_eq_false, Bool.and_true, Bool.true_and, Bool.and_false, Bool.false_and, not_true_eq_false, not_false_eq_true])
    (fun s x ⟨q, hs, hwl, hf, hq, ho, hp⟩ => by
      subst hs
      rw [List.take_length] at ho hp
      have hc : ¬ ((ps.length : Nat) : Int) < (v.2.1 : Int) := by omega
      have hlong : longP ps = false := by
        unfold longP; simp only [decide_eq_false_iff_not]
        rintro ⟨p, h1, h2⟩
        have := hp p h1; omega
      refine ⟨.exit 0, (0, q, ((ps.length : Nat) : Int)), x, ?_, by simp, hwl, hf, q, _, by rw [hlong]; rfl, hq, by rw [hlong]; rfl, fun _ => ho⟩
      unfold g24_l2_b
      simp only [hc, Option.bind_some, asP_pointer, asB_bool, asI_int, asS_string, asSl_slice, asM_map, asTup0, asTup1, asTup2, asTup3, asTup4, asTup5, getD0, getD1, getD2, getD3, getD4, Bool.not_true, Bool.not_false, Bool.false_eq_true, Bool.true_eq_false, ↓reduceIte, decide_true, decide_false, Option.isNone_some, Option.isNone_none, Option.isSome_some, Option.isSome_none, beq_self_eq_true, bne_self_eq_false, Bool.and_true, Bool.true_and, Bool.and_false, Bool.false_and, not_true_eq_false, not_false_eq_true])
    (Nat.zero_le _) (k := 0) (s := (0, (none, 0, 0), 0)) (w := w) ⟨(none, 0, 0), rfl, hw, Fr.refl _ _, by simp [blkOf], Own.nil _ _ _, by simp⟩
  obtain ⟨q, m, rfl, g5, rfl, g6⟩ := g4
  exact ⟨w', q, m, g1, g2, g3, g5, g6⟩
end
end Go.Proofs.Ytnflklkjjjlpaaa
