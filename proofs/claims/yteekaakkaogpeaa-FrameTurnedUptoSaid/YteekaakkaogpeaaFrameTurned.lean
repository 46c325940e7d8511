/-
  FrameTurned: lemmas on what Go functions of this seat come to (for whatever arguments, as each says). No condition but those that stand in each lemma.
-/
import Derived.Test.YteekaakkaogpeaaFrameT1
namespace Go.Proofs.Yteekaakkaogpeaa
open Go Go.Ev Go.Crc
set_option maxRecDepth 100000
set_option linter.unusedVariables false
set_option linter.unusedSimpArgs false

theorem pos_all (ps : List (List Int)) {k : Nat} (hk : k < ps.length) : encs ps = encs (ps.take k) ++ (le4 (ps[k].length : Int) ++ (le4 (more 0 ps[k]) ++ (ps[k] ++ encs (ps.drop (k + 1))))) := by
  have e1 : encs ps = encs (ps.take k) ++ (enc ps[k] ++ encs (ps.drop (k + 1))) := by
    rw [← encs_cons, ← List.drop_eq_getElem_cons hk, ← encs_append, List.take_append_drop]
  rw [e1]; simp [enc]

theorem turned_payload {ps : List (List Int)} (hz : ∀ p ∈ ps, Zs p) (hs : ∀ p ∈ ps, p.length ≤ 4096) {k bit : Nat} (hk : k < ps.length) (by_ : BitVec 32) (hby : by_ ≠ 0#32) (hb : bit + 32 ≤ 8 * ps[k].length) :
    scan (Lb8 (encs ps) by_ (8 * ((encs (ps.take k)).length + 8) + bit) 32) = (ps.take k, (encs (ps.take k)).length, 8) := by
  have hzA : Zs (encs (ps.take k)) := encs_zs fun p hp => hz p (List.mem_of_mem_take hp)
  have hzZ : Zs (encs (ps.drop (k + 1))) := encs_zs fun p hp => hz p (List.mem_of_mem_drop hp)
  have e : encs ps = (encs (ps.take k) ++ (le4 (ps[k].length : Int) ++ le4 (more 0 ps[k]))) ++ (ps[k] ++ encs (ps.drop (k + 1))) := by rw [pos_all ps hk]; simp
  have hX : Zs (encs (ps.take k) ++ (le4 (ps[k].length : Int) ++ le4 (more 0 ps[k]))) := by
    intro z hm
    simp only [List.mem_append] at hm
    rcases hm with hm | hm | hm
    · exact hzA z hm
    · exact le4_zs z hm
    · exact le4_zs z hm
  have hXl : (encs (ps.take k) ++ (le4 (ps[k].length : Int) ++ le4 (more 0 ps[k]))).length = (encs (ps.take k)).length + 8 := by simp [le4]
  have hseg := Lb8_seg hX hzZ by_ bit hb
  rw [hXl, ← e] at hseg
  rw [hseg]
  have hlen : (ps[k].length : Int) = ((Lb8 ps[k] by_ bit 32).length : Int) := by rw [Lb8_length]
  have hne := more_turned (A := ps[k]) (D := Lb8 ps[k] by_ bit 32) by_ hby bit hb Lb8_length (by
    intro i hi
    rw [Lb8_get (by rw [Lb8_length]; exact hi) hi, ofInt_toNat])
  have hmr := more_range 0 ps[k]
  rw [List.append_assoc, List.append_assoc]
  conv => lhs; rw [hlen]
  refine scan_sum (fun p hp => hs p (List.mem_of_mem_take hp)) (by rw [Lb8_length]; exact hs _ (List.getElem_mem hk)) rfl ?_
  have e4 : un4 ((le4 (more 0 ps[k])).getD 0 0) ((le4 (more 0 ps[k])).getD 1 0) ((le4 (more 0 ps[k])).getD 2 0) ((le4 (more 0 ps[k])).getD 3 0) = more 0 ps[k] := un4_le4 hmr
  rw [e4]
  simpa using hne

theorem turned_sum {ps : List (List Int)} (hz : ∀ p ∈ ps, Zs p) (hs : ∀ p ∈ ps, p.length ≤ 4096) {k : Nat} (hk : k < ps.length) (by_ : BitVec 32) (hby : by_ ≠ 0#32) :
    scan (Lb8 (encs ps) by_ (8 * ((encs (ps.take k)).length + 4) + 0) 32) = (ps.take k, (encs (ps.take k)).length, 8) := by
  have hzA : Zs (encs (ps.take k)) := encs_zs fun p hp => hz p (List.mem_of_mem_take hp)
  have hzZ : Zs (encs (ps.drop (k + 1))) := encs_zs fun p hp => hz p (List.mem_of_mem_drop hp)
  have e : encs ps = (encs (ps.take k) ++ le4 (ps[k].length : Int)) ++ (le4 (more 0 ps[k]) ++ (ps[k] ++ encs (ps.drop (k + 1)))) := by rw [pos_all ps hk]; simp
  have hX : Zs (encs (ps.take k) ++ le4 (ps[k].length : Int)) := by
    intro z hm
    simp only [List.mem_append] at hm
    rcases hm with hm | hm
    · exact hzA z hm
    · exact le4_zs z hm
  have hZ : Zs (ps[k] ++ encs (ps.drop (k + 1))) := by
    intro z hm
    simp only [List.mem_append] at hm
    rcases hm with hm | hm
    · exact hz _ (List.getElem_mem hk) z hm
    · exact hzZ z hm
  have hXl : (encs (ps.take k) ++ le4 (ps[k].length : Int)).length = (encs (ps.take k)).length + 4 := by simp [le4]
  have hseg := Lb8_seg hX hZ by_ 0 (show 0 + 32 ≤ 8 * (le4 (more 0 ps[k])).length from Nat.le_refl 32)
  rw [hXl, ← e] at hseg
  rw [hseg, List.append_assoc]
  refine scan_sum (fun p hp => hs p (List.mem_of_mem_take hp)) (hs _ (List.getElem_mem hk)) (by rw [Lb8_length]; rfl) ?_
  exact un4_turned (more_range 0 ps[k]) by_ hby

/-- where the k-th frame begins -/
theorem begin8 {w : World} {u0 q5 : Option Addr × Nat × Nat} {p2 : Option Addr} {u1 u2 u3 : Int} {ps : List (List Int)} {B : Nat → Prop} (h : Lst .u8 w B u0 ps) {k : Nat} (hk : Int.tmod (IntKind.i64.wrap u1) (u0.2.1 : Int) = (k : Int)) (hkl : k < ps.length)
    (hs : ∀ p ∈ ps, p.length ≤ 4096) (hel : (encs ps).length ≤ 8388608) (hnl : ps.length ≤ 1048576) :
    loopS (g8_l19_b u1 u0 u2 u3 p2 q5) (0, 0) w = some (.exit 0, ((((encs (ps.take k)).length : Nat) : Int), (k : Int)), w) := by
  have hlen := h.len
  obtain ⟨t, w', g1, g2, g3⟩ := loopS_count (b := g8_l19_b u1 u0 u2 u3 p2 q5) (I := fun j s x => s = ((((encs (ps.take j)).length : Nat) : Int), (j : Int)) ∧ x = w) (n := k)
    (fun j s x hj ⟨hs', hx⟩ => by
      subst hs' hx
      obtain ⟨a, q7, i1, c1, r1, _, _⟩ := h.get (i := j) (by omega)
      have hq7 := r1.1
      have hp7 := hs _ (List.getElem_mem (show j < ps.length by omega))
      have hsuc := encs_take_succ (show j < ps.length by omega)
      have hle2 := encs_take_le ps (j + 1)
      have hc : (j : Int) < (k : Int) := by omega
      have hs1 := wrap_succ (n := j) (by omega)
      have hw3 : IntKind.i64.wrap (8 + (q7.2.1 : Int)) = 8 + (q7.2.1 : Int) := wrap_i64 (by omega) (by omega)
      have hw4 : IntKind.i64.wrap ((((encs (ps.take j)).length : Nat) : Int) + (8 + (q7.2.1 : Int))) = (((encs (ps.take (j + 1))).length : Nat) : Int) := by rw [wrap_i64 (by omega) (by omega)]; omega
      refine ⟨((((encs (ps.take (j + 1))).length : Nat) : Int), ((j + 1 : Nat) : Int)), x, ?_, rfl, rfl⟩
      unfold g8_l19_b
      simp only [hk, hc, i1, c1, hw3, hw4, hs1, Option.bind_some, asP_pointer, asB_bool, asI_int, asS_string, asSl_slice, asM_map, asTup0, asTup1, asTup2, asTup3, asTup4, asTup5, getD0, getD1, getD2, getD3, getD4, Bool.not_true, Bool.not_false, Bool.false_eq_true, Bool.true_eq_false, ↓reduceIte, decide_true, decide_false, Option.isNone_some, Option.isNone_none, Option.isSome_some, Option.isSome_none, beq_self_eq_true, bne_self_eq_false, Bool.and_true, Bool.true_and, Bool.and_false, Bool.false_and, not_true_eq_false, not_false_eq_true])
    (fun s x ⟨hs', hx⟩ => by
      subst hs' hx
      have hc : ¬ (k : Int) < (k : Int) := by omega
      unfold g8_l19_b
      simp only [hk, hc, Option.bind_some, asP_pointer, asB_bool, asI_int, asS_string, asSl_slice, asM_map, asTup0, asTup1, asTup2, asTup3, asTup4, asTup5, getD0, getD1, getD2, getD3, getD4, Bool.not_true, Bool.not_false, Bool.false_eq_true, Bool.true_eq_false, ↓reduceIte, decide_true, decide_false, Option.isNone_some, Option.isNone_none, Option.isSome_some, Option.isSome_none, beq_self_eq_true, bne_self_eq_false, Bool.and_true, Bool.true_and, Bool.and_false, Bool.false_and, not_true_eq_false, not_false_eq_true])
    (Nat.zero_le _) (k := 0) (s := (0, 0)) (w := w) ⟨rfl, rfl⟩
  rw [g2, g3] at g1
  exact g1

/-- what a scan tells of frames of which one is turned -/
theorem after8 {W w0 w : World} {fb tb : Nat} {q u0 : Option Addr × Nat × Nat} {ps : List (List Int)} {zs : List Int} {by_ : BitVec 32} {K k : Nat} {t : Int} (i : UInv w0 fb tb q zs by_ K 32 t w) (hL : Lst .u8 w0 (fun y => y < W.heap.size) u0 ps)
    (hW : W.heap.size ≤ tb) (hWw : W.heap.size ≤ w0.heap.size) (hq : ∀ y ∈ blkOf q, W.heap.size ≤ y) (nt : tb ∉ blkOf q) (hzl : zs.length ≤ 8388608) (hkl : k < ps.length) (hs : ∀ p ∈ ps, p.length ≤ 4096) (hcap : u0.2.1 ≤ u0.2.2) (hnl : ps.length ≤ 1048576)
    (hsc : scan (Lb8 zs by_ K 32) = (ps.take k, (encs (ps.take k)).length, 8)) (F0 : Fr [] W w0) :
    ∃ (v6 : Option Addr × Nat × Nat) (w6 w8 : World), callF Try.prog 18 #[.pointer (some ⟨fb, 0, none⟩), .slice q.1 q.2.1 q.2.2] w = some (.tuple #[.slice v6.1 v6.2.1 v6.2.2, .int .i64 (((encs (ps.take k)).length : Nat) : Int), .int .i64 8], w6) ∧
      (∃ qc : Option Addr × Nat × Nat, slc u0.1 u0.2.1 u0.2.2 1 none (some (k : Int)) none = some qc ∧ callF Try.prog 19 #[.slice v6.1 v6.2.1 v6.2.2, .slice qc.1 qc.2.1 qc.2.2] w6 = some (.bool true, w8)) ∧ Fr [] W w8 := by
  obtain ⟨_, m, f, o⟩ := i
  obtain ⟨v6, w6, e6, l6, m6, f6⟩ := scan18 m o.slI (Lb8_zs _ _ _ _) o.le (fun _ => nt) (by rw [Lb8_length]; omega)
  rw [hsc] at e6 l6
  have z_f := Fr.size f; have z_f6 := Fr.size f6
  have F6 : Fr [] W w6 := (Fr.mono (Fr.app (Fr.app F0 f) f6) (by have z0_ := Fr.size F0; have z1_ := Fr.size f; have z2_ := Fr.size f6; intro y_ hy_ hl_; grind [blkOf]))
  have hL6 := hL.fr (S := tb :: blkOf q) (Fr.mono (Fr.app f f6) (by have z0_ := Fr.size f; have z1_ := Fr.size f6; intro y_ hy_ hl_; grind [blkOf])) (by grind)
  have hLl := hL.len
  have hcutL := hL6.cut (j := k) (by omega) hcap
  have hslL := slc_to (u := u0) (n := 1) (j := k) (by omega)
  obtain ⟨w8, e8, f8⟩ := samelist19 l6.lst' hcutL (by simp; omega) (fun p hp => by have := hs p (List.mem_of_mem_take hp); omega)
  refine ⟨v6, w6, w8, e6, ⟨_, hslL, ?_⟩, (Fr.mono (Fr.app F6 f8) (by have z0_ := Fr.size F6; have z1_ := Fr.size f8; intro y_ hy_ hl_; grind [blkOf]))⟩
  rw [e8]; simp

theorem FrameTurned_main (W : World) (x0 : (Ty.slice (.slice (.int .u8))).Val) (h0 : (Ty.slice (.slice (.int .u8))).At W [.slice x0.1.1 x0.1.2.1 x0.1.2.2] x0) (n1 : Int) (h1 : IntKind.u8.min ≤ n1 ∧ n1 ≤ IntKind.u8.max)
    (n2 : Int) (h2 : IntKind.u16.min ≤ n2 ∧ n2 ≤ IntKind.u16.max) (n3 : Int) (h3 : IntKind.u32.min ≤ n3 ∧ n3 ≤ IntKind.u32.max)
    (hb : (Ty.slice (.slice (.int .u8))).bulk x0 + 1 + 1 + 1 ≤ 1048576) :
    ∃ w', callF Try.prog 8 #[.slice x0.1.1 x0.1.2.1 x0.1.2.2, .int .u8 n1, .int .u16 n2, .int .u32 n3] W = some (.bool true, w') ∧ Fr [] W w' := by
  obtain ⟨hL, hz, hcap⟩ := lst_of_at h0
  replace hz : ∀ p ∈ x0.2.map (·.2), Zs p := fun p hp => zs_of (hz p hp)
  rw [bulk_list] at hb
  obtain ⟨ps, hps⟩ : ∃ ps : List (List Int), x0.2.map (·.2) = ps := ⟨_, rfl⟩
  rw [hps] at hL hz hb
  replace hb : (ps.map fun p => p.length + 1).sum + 1 + 1 + 1 + 1 ≤ 1048576 := hb
  generalize x0.1 = u0 at hL hcap
  replace h1 := u8_range h1
  have h2r : 0 ≤ n2 ∧ n2 < 65536 := by
    have a : IntKind.u16.min = 0 := by decide
    have b : IntKind.u16.max = 65535 := by decide
    rw [a, b] at h2; omega
  replace h3 := u32_range h3
  have hel : (encs ps).length ≤ 8388608 := by have := sum_bulk ps; rw [encs_length]; omega
  have hnl : ps.length ≤ 1048576 := by
    have : ∀ l : List (List Int), l.length ≤ (l.map fun p => p.length + 1).sum := by
      intro l; induction l with
      | nil => simp
      | cons p l ih => simp only [List.map_cons, List.sum_cons, List.length_cons]; omega
    have := this ps; omega
  have hLl := hL.len
  obtain ⟨fb, tb, w1, e1, m1, f1, htb, hfb⟩ := new10 (w := W)
  obtain ⟨q5, w2, ok, e2, hok, o2, f2, h5⟩ := join20 (hL.fr f1 (by simp)) hz (by omega) (by omega)
  obtain ⟨w3, e3, f3⟩ := awake12 (w := w2)
  obtain ⟨w4, e4, f4⟩ := awake12 (w := w3)
  have FA : Fr [] W w4 := (Fr.mono (Fr.app (Fr.app (Fr.app f1 f2) f3) f4) (by have z0_ := Fr.size f1; have z1_ := Fr.size f2; have z2_ := Fr.size f3; have z3_ := Fr.size f4; intro y_ hy_ hl_; grind [blkOf]))
  cases ok with
  | false =>
    refine ⟨w4, g8_call ?_, FA⟩
    unfold g8
    simp only [e1, e2, e3, e4, Option.bind_some, asP_pointer, asB_bool, asI_int, asS_string, asSl_slice, asM_map, asTup0, asTup1, asTup2, asTup3, asTup4, asTup5, getD0, getD1, getD2, getD3, getD4, Bool.not_true, Bool.not_false, Bool.false_eq_true, Bool.true_eq_false, ↓reduceIte, decide_true, decide_false, Option.isNone_some, Option.isNone_none, Option.isSome_some, Option.isSome_none, beq_self_eq_true, bne_self_eq_false, Bool.and_true, Bool.true_and, Bool.and_false, Bool.false_and, not_true_eq_false, not_false_eq_true]
  | true =>
    have hs := hok.1 rfl
    have o3 := (o2 rfl).fr f3 (by simp)
    have F3 : Fr [] W w3 := (Fr.mono (Fr.app (Fr.app f1 f2) f3) (by have z0_ := Fr.size f1; have z1_ := Fr.size f2; have z2_ := Fr.size f3; intro y_ hy_ hl_; grind [blkOf]))
    have hc5 := o3.le
    by_cases hz0 : ps.length = 0
    · refine ⟨w4, g8_call ?_, FA⟩
      have hq0 : ((u0.2.1 : Int) == 0) = true := by
        have : (u0.2.1 : Int) = 0 := by omega
        simp [this]
      unfold g8
      simp only [e1, e2, e3, hq0, e4, Option.bind_some, asP_pointer, asB_bool, asI_int, asS_string, asSl_slice, asM_map, asTup0, asTup1, asTup2, asTup3, asTup4, asTup5, getD0, getD1, getD2, getD3, getD4, Bool.not_true, Bool.not_false, Bool.false_eq_true, Bool.true_eq_false, ↓reduceIte, decide_true, decide_false, Option.isNone_some, Option.isNone_none, Option.isSome_some, Option.isSome_none, beq_self_eq_true, bne_self_eq_false, Bool.and_true, Bool.true_and, Bool.and_false, Bool.false_and, not_true_eq_false, not_false_eq_true]
    · have hq0 : ((u0.2.1 : Int) == 0) = false := by
        have : ¬ (u0.2.1 : Int) = 0 := by omega
        simpa using this
      have hq0' : ¬ (u0.2.1 : Int) = 0 := by omega
      by_cases hn3 : n3 = 0
      · refine ⟨w4, g8_call ?_, FA⟩
        subst hn3
        unfold g8
        simp only [e1, e2, e3, hq0, e4, Option.bind_some, asP_pointer, asB_bool, asI_int, asS_string, asSl_slice, asM_map, asTup0, asTup1, asTup2, asTup3, asTup4, asTup5, getD0, getD1, getD2, getD3, getD4, Bool.not_true, Bool.not_false, Bool.false_eq_true, Bool.true_eq_false, ↓reduceIte, decide_true, decide_false, Option.isNone_some, Option.isNone_none, Option.isSome_some, Option.isSome_none, beq_self_eq_true, bne_self_eq_false, Bool.and_true, Bool.true_and, Bool.and_false, Bool.false_and, not_true_eq_false, not_false_eq_true]
      · have hne3 : (n3 == 0) = false := by simpa using hn3
        obtain ⟨k, hk, hkl⟩ : ∃ k : Nat, Int.tmod (IntKind.i64.wrap n1) (u0.2.1 : Int) = (k : Int) ∧ k < ps.length := by
          rw [wrap_i64 (n := n1) (by omega) (by omega), Int.tmod_eq_emod_of_nonneg h1.1]
          have a1 := Int.emod_nonneg n1 hq0'
          have a2 := Int.emod_lt_of_pos n1 (show 0 < (u0.2.1 : Int) by omega)
          exact ⟨(n1 % (u0.2.1 : Int)).toNat, by omega, by omega⟩
        have hn3b := w32_bv h3
        generalize hbv : BitVec.ofInt 32 n3 = by_ at hn3b
        have hby : by_ ≠ 0#32 := by
          intro e; rw [e] at hn3b; exact hn3 hn3b
        have hL3 := hL.fr F3 (by simp)
        have e5 := begin8 (u2 := n2) (u3 := n3) (p2 := some ⟨fb, 0, none⟩) (q5 := q5) hL3 hk hkl hs hel hnl
        obtain ⟨a7, q7, i7, c7, r7, _, _⟩ := hL3.get hkl
        have hq7 := r7.1
        have hpk := hs _ (List.getElem_mem hkl)
        have hsuc := encs_take_succ hkl
        have hle2 := encs_take_le ps (k + 1)
        have htl := m1.tbl.lt
        have hfl := m1.blk.lt
        have zall := encs_zs hz
        obtain ⟨q9, w9, e9, o9, f9, h9⟩ := copyE o3.slI (by omega) #[false, false]
        have z_f1 := Fr.size f1; have z_f2 := Fr.size f2; have z_f3 := Fr.size f3; have z_f9 := Fr.size f9
        have m9 : Fm w9 fb tb := m1.fr (S := []) (Fr.mono (Fr.app (Fr.app f2 f3) f9) (by have z0_ := Fr.size f2; have z1_ := Fr.size f3; have z2_ := Fr.size f9; intro y_ hy_ hl_; grind [blkOf])) (by simp) (by simp)
        have F9 : Fr [] W w9 := (Fr.mono (Fr.app F3 f9) (by have z0_ := Fr.size F3; have z1_ := Fr.size f9; intro y_ hy_ hl_; grind [blkOf]))
        have hL9 := hL.fr F9 (by simp)
        have nf : fb ∉ blkOf q9 := by grind
        have nt : tb ∉ blkOf q9 := by grind
        have hq9W : ∀ y ∈ blkOf q9, W.heap.size ≤ y := by grind
        have e5' := g8_l19_x0_of e5
        have h88 : ((8 : Int) == 8) = true := by decide
        -- the two sums
        have hM4 : IntKind.i64.wrap ((IntKind.i64.wrap (8 * 4)) - 31) = 1 := by decide
        have hK4 : Int.tmod (IntKind.i64.wrap n2) (IntKind.i64.wrap ((IntKind.i64.wrap (8 * 4)) - 31)) = ((0 : Nat) : Int) := by
          rw [hM4]; exact Int.tmod_one _
        have hsum := turned_sum hz hs hkl by_ hby
        have h10 : ¬ (1 : Int) = 0 := by decide
        by_cases hge : (q7.2.1 : Int) ≥ 5
        · by_cases h3m : Int.tmod n2 3 > 0
          · have hw8 : IntKind.i64.wrap (8 * (q7.2.1 : Int)) = 8 * (q7.2.1 : Int) := wrap_i64 (by omega) (by omega)
            have hw31 : IntKind.i64.wrap (8 * (q7.2.1 : Int) - 31) = 8 * (q7.2.1 : Int) - 31 := wrap_i64 (by omega) (by omega)
            have hnz : ¬ 8 * (q7.2.1 : Int) - 31 = 0 := by omega
            obtain ⟨bit, hK, hbit⟩ : ∃ bit : Nat, Int.tmod (IntKind.i64.wrap n2) (IntKind.i64.wrap ((IntKind.i64.wrap (8 * (q7.2.1 : Int))) - 31)) = (bit : Int) ∧ bit + 32 ≤ 8 * ps[k].length := by
              rw [hw8, hw31, wrap_i64 (n := n2) (by omega) (by omega), Int.tmod_eq_emod_of_nonneg h2r.1]
              have a1 := Int.emod_nonneg n2 hnz
              have a2 := Int.emod_lt_of_pos n2 (show 0 < 8 * (q7.2.1 : Int) - 31 by omega)
              exact ⟨(n2 % (8 * (q7.2.1 : Int) - 31)).toNat, by omega, by omega⟩
            have hpay := turned_payload hz hs hkl by_ hby hbit
            obtain ⟨t, w10, e10, i10⟩ := turned_38 (u0 := u0) (p2 := some ⟨fb, 0, none⟩) (u1 := n1) (q := q9) (q33 := q7) (t29 := ((((encs (ps.take k)).length : Nat) : Int), (k : Int))) (by_ := by_) (begin_ := (encs (ps.take k)).length)
              hK rfl (by omega) (by omega) nf nt m9 zall o9
            obtain ⟨v6, w6, w8, e6, ⟨qc, es, e8⟩, F8⟩ := after8 i10 hL9 htb F9.size hq9W nt hel hkl hs hcap hnl hpay F9
            refine ⟨w8, g8_call ?_, F8⟩
            rw [hn3b] at hne3 e5' ⊢
            unfold g8
            simp only [e1, e2, e3, hq0, hq0', hne3, e5', Option.bind_some, asP_pointer, asB_bool, asI_int, asS_string, asSl_slice, asM_map, asTup0, asTup1, asTup2, asTup3, asTup4, asTup5, getD0, getD1, getD2, getD3, getD4, Bool.not_true, Bool.not_false, Bool.false_eq_true, Bool.true_eq_false, ↓reduceIte, decide_true, decide_false, Option.isNone_some, Option.isNone_none, Option.isSome_some, Option.isSome_none, beq_self_eq_true, bne_self_eq_false, Bool.and_true, Bool.true_and, Bool.and_false, Bool.false_and, not_true_eq_false, not_false_eq_true]
            unfold g8_l19_x0
            simp only [hk, i7, c7, hge, h3m, Option.bind_some, asP_pointer, asB_bool, asI_int, asS_string, asSl_slice, asM_map, asTup0, asTup1, asTup2, asTup3, asTup4, asTup5, getD0, getD1, getD2, getD3, getD4, Bool.not_true, Bool.not_false, Bool.false_eq_true, Bool.true_eq_false, ↓reduceIte, decide_true, decide_false, Option.isNone_some, Option.isNone_none, Option.isSome_some, Option.isSome_none, beq_self_eq_true, bne_self_eq_false, Bool.and_true, Bool.true_and, Bool.and_false, Bool.false_and, not_true_eq_false, not_false_eq_true]
            have hnz' : ¬ IntKind.i64.wrap (IntKind.i64.wrap (8 * (q7.2.1 : Int)) - 31) = 0 := by rw [hw8, hw31]; exact hnz
            simp only [hnz', e9, g8_l38_x2_of e10, Option.bind_some, asP_pointer, asB_bool, asI_int, asS_string, asSl_slice, asM_map, asTup0, asTup1, asTup2, asTup3, asTup4, asTup5, getD0, getD1, getD2, getD3, getD4, Bool.not_true, Bool.not_false, Bool.false_eq_true, Bool.true_eq_false, ↓reduceIte, decide_true, decide_false, Option.isNone_some, Option.isNone_none, Option.isSome_some, Option.isSome_none, beq_self_eq_true, bne_self_eq_false, Bool.and_true, Bool.true_and, Bool.and_false, Bool.false_and, not_true_eq_false, not_false_eq_true]
            unfold g8_l38_x2
            simp only [e6, h88, hk, es, e8, Option.bind_some, asP_pointer, asB_bool, asI_int, asS_string, asSl_slice, asM_map, asTup0, asTup1, asTup2, asTup3, asTup4, asTup5, getD0, getD1, getD2, getD3, getD4, Bool.not_true, Bool.not_false, Bool.false_eq_true, Bool.true_eq_false, ↓reduceIte, decide_true, decide_false, Option.isNone_some, Option.isNone_none, Option.isSome_some, Option.isSome_none, beq_self_eq_true, bne_self_eq_false, Bool.and_true, Bool.true_and, Bool.and_false, Bool.false_and, not_true_eq_false, not_false_eq_true]
          · obtain ⟨t, w10, e10, i10⟩ := turned_60 (u0 := u0) (p2 := some ⟨fb, 0, none⟩) (u1 := n1) (q := q9) (t29 := ((((encs (ps.take k)).length : Nat) : Int), (k : Int))) (by_ := by_) (begin_ := (encs (ps.take k)).length)
              hK4 rfl (by omega) (by omega) nf nt m9 zall o9
            obtain ⟨v6, w6, w8, e6, ⟨qc, es, e8⟩, F8⟩ := after8 i10 hL9 htb F9.size hq9W nt hel hkl hs hcap hnl hsum F9
            refine ⟨w8, g8_call ?_, F8⟩
            rw [hn3b] at hne3 e5' ⊢
            unfold g8
            simp only [e1, e2, e3, hq0, hq0', hne3, e5', Option.bind_some, asP_pointer, asB_bool, asI_int, asS_string, asSl_slice, asM_map, asTup0, asTup1, asTup2, asTup3, asTup4, asTup5, getD0, getD1, getD2, getD3, getD4, Bool.not_true, Bool.not_false, Bool.false_eq_true, Bool.true_eq_false, ↓reduceIte, decide_true, decide_false, Option.isNone_some, Option.isNone_none, Option.isSome_some, Option.isSome_none, beq_self_eq_true, bne_self_eq_false, Bool.and_true, Bool.true_and, Bool.and_false, Bool.false_and, not_true_eq_false, not_false_eq_true]
            unfold g8_l19_x0
            simp only [hk, i7, c7, hge, h3m, hM4, h10, e9, g8_l60_x2_of e10, Option.bind_some, asP_pointer, asB_bool, asI_int, asS_string, asSl_slice, asM_map, asTup0, asTup1, asTup2, asTup3, asTup4, asTup5, getD0, getD1, getD2, getD3, getD4, Bool.not_true, Bool.not_false, Bool.false_eq_true, Bool.true_eq_false, ↓reduceIte, decide_true, decide_false, Option.isNone_some, Option.isNone_none, Option.isSome_some, Option.isSome_none, beq_self_eq_true, bne_self_eq_false, Bool.and_true, Bool.true_and, Bool.and_false, Bool.false_and, not_true_eq_false, not_false_eq_true]
            unfold g8_l60_x2
            simp only [e6, h88, hk, es, e8, Option.bind_some, asP_pointer, asB_bool, asI_int, asS_string, asSl_slice, asM_map, asTup0, asTup1, asTup2, asTup3, asTup4, asTup5, getD0, getD1, getD2, getD3, getD4, Bool.not_true, Bool.not_false, Bool.false_eq_true, Bool.true_eq_false, ↓reduceIte, decide_true, decide_false, Option.isNone_some, Option.isNone_none, Option.isSome_some, Option.isSome_none, beq_self_eq_true, bne_self_eq_false, Bool.and_true, Bool.true_and, Bool.and_false, Bool.false_and, not_true_eq_false, not_false_eq_true]
        · obtain ⟨t, w10, e10, i10⟩ := turned_82 (u0 := u0) (p2 := some ⟨fb, 0, none⟩) (u1 := n1) (q := q9) (t29 := ((((encs (ps.take k)).length : Nat) : Int), (k : Int))) (by_ := by_) (begin_ := (encs (ps.take k)).length)
            hK4 rfl (by omega) (by omega) nf nt m9 zall o9
          obtain ⟨v6, w6, w8, e6, ⟨qc, es, e8⟩, F8⟩ := after8 i10 hL9 htb F9.size hq9W nt hel hkl hs hcap hnl hsum F9
          refine ⟨w8, g8_call ?_, F8⟩
          rw [hn3b] at hne3 e5' ⊢
          unfold g8
          simp only [e1, e2, e3, hq0, hq0', hne3, e5', Option.bind_some, asP_pointer, asB_bool, asI_int, asS_string, asSl_slice, asM_map, asTup0, asTup1, asTup2, asTup3, asTup4, asTup5, getD0, getD1, getD2, getD3, getD4, Bool.not_true, Bool.not_false, Bool.false_eq_true, Bool.true_eq_false, ↓reduceIte, decide_true, decide_false, Option.isNone_some, Option.isNone_none, Option.isSome_some, Option.isSome_none, beq_self_eq_true, bne_self_eq_false, Bool.and_true, Bool.true_and, Bool.and_false, Bool.false_and, not_true_eq_false, not_false_eq_true]
          unfold g8_l19_x0
          simp only [hk, i7, c7, hge, hM4, h10, e9, g8_l82_x2_of e10, Option.bind_some, asP_pointer, asB_bool, asI_int, asS_string, asSl_slice, asM_map, asTup0, asTup1, asTup2, asTup3, asTup4, asTup5, getD0, getD1, getD2, getD3, getD4, Bool.not_true, Bool.not_false, Bool.false_eq_true, Bool.true_eq_false, ↓reduceIte, decide_true, decide_false, Option.isNone_some, Option.isNone_none, Option.isSome_some, Option.isSome_none, beq_self_eq_true, bne_self_eq_false, Bool.and_true, Bool.true_and, Bool.and_false, Bool.false_and, not_true_eq_false, not_false_eq_true]
          unfold g8_l82_x2
          simp only [e6, h88, hk, es, e8, Option.bind_some, asP_pointer, asB_bool, asI_int, asS_string, asSl_slice, asM_map, asTup0, asTup1, asTup2, asTup3, asTup4, asTup5, getD0, getD1, getD2, getD3, getD4, Bool.not_true, Bool.not_false, Bool.false_eq_true, Bool.true_eq_false, ↓reduceIte, decide_true, decide_false, Option.isNone_some, Option.isNone_none, Option.isSome_some, Option.isSome_none, beq_self_eq_true, bne_self_eq_false, Bool.and_true, Bool.true_and, Bool.and_false, Bool.false_and, not_true_eq_false, not_false_eq_true]
end Go.Proofs.Yteekaakkaogpeaa
