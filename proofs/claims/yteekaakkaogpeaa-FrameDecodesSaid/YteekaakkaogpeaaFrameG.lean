/-
  FrameG: lemmas on what Go functions of this seat come to (for whatever arguments, as each says). No condition but those that stand in each lemma.
-/
import Derived.Test.YteekaakkaogpeaaFrameE
namespace Go.Proofs.Yteekaakkaogpeaa
open Go Go.Ev Go.Crc
set_option maxRecDepth 100000
set_option linter.unusedVariables false
set_option linter.unusedSimpArgs false
section
variable {w : World}

/-- the two numbers at the front, by a reader -/
theorem head_short {u : Option Addr × Nat × Nat} {zs : List Int} (hu : Sl8 w u zs) (hz : Zs zs) (hl : zs.length < 8) :
    ∃ b n s w1 w2 w3, callF Try.prog 29 #[.slice u.1 u.2.1 u.2.2] w = some (.pointer (some ⟨b, 0, none⟩), w1) ∧ callF Try.prog 30 #[.pointer (some ⟨b, 0, none⟩)] w1 = some (.int .u32 n, w2) ∧
      callF Try.prog 30 #[.pointer (some ⟨b, 0, none⟩)] w2 = some (.int .u32 s, w3) ∧ (∃ n m, callF Try.prog 31 #[.pointer (some ⟨b, 0, none⟩)] w3 = some (.tuple #[.int .i64 n, .int .i64 m, .int .i64 6], w3.drew)) ∧ Fr [] w w3.drew := by
  obtain ⟨b, q, w1, e1, r1, f1, hb⟩ := newR29 hu (by omega)
  have fin : ∀ x : World, Fr [b] w1 x → Fr [] w x := fun x f => (f1.nil.trans f).mono (by intro y hy hlt; simp at hy; omega)
  by_cases h4 : zs.length < 4
  · obtain ⟨w2, e2, r2, f2⟩ := fixed30_end (k := 0) r1 (by omega) (by omega) (by omega)
    have e3 := fixed30_bad r2 (by decide)
    exact ⟨b, 0, 0, w1, w2, w2, e1, e2, e3, state31 r2, (fin _ f2).trans (Fr.drew _ _)⟩
  · obtain ⟨w2, e2, r2, f2⟩ := fixed30_ok (k := 0) r1 hz (by omega) (by omega)
    obtain ⟨w3, e3, r3, f3⟩ := fixed30_end (k := 4) r2 (by omega) (by omega) (by omega)
    exact ⟨b, _, 0, w1, w2, w3, e1, e2, e3, state31 r3, (fin _ (f2.trans f3)).trans (Fr.drew _ _)⟩

theorem head_long {u : Option Addr × Nat × Nat} {zs : List Int} (hu : Sl8 w u zs) (hz : Zs zs) (hl : zs.length = 8) :
    ∃ b w1 w2 w3, callF Try.prog 29 #[.slice u.1 u.2.1 u.2.2] w = some (.pointer (some ⟨b, 0, none⟩), w1) ∧
      callF Try.prog 30 #[.pointer (some ⟨b, 0, none⟩)] w1 = some (.int .u32 (un4 (zs.getD 0 0) (zs.getD 1 0) (zs.getD 2 0) (zs.getD 3 0)), w2) ∧
      callF Try.prog 30 #[.pointer (some ⟨b, 0, none⟩)] w2 = some (.int .u32 (un4 (zs.getD 4 0) (zs.getD 5 0) (zs.getD 6 0) (zs.getD 7 0)), w3) ∧
      (∃ n m, callF Try.prog 31 #[.pointer (some ⟨b, 0, none⟩)] w3 = some (.tuple #[.int .i64 n, .int .i64 m, .int .i64 0], w3.drew)) ∧ Fr [] w w3.drew := by
  obtain ⟨b, q, w1, e1, r1, f1, hb⟩ := newR29 hu (by omega)
  have fin : ∀ x : World, Fr [b] w1 x → Fr [] w x := fun x f => (f1.nil.trans f).mono (by intro y hy hlt; simp at hy; omega)
  obtain ⟨w2, e2, r2, f2⟩ := fixed30_ok (k := 0) r1 hz (by omega) (by omega)
  obtain ⟨w3, e3, r3, f3⟩ := fixed30_ok (k := 4) r2 hz (by omega) (by omega)
  refine ⟨b, w1, w2, w3, e1, ?_, ?_, state31 r3, (fin _ (f2.trans f3)).trans (Fr.drew _ _)⟩
  · rw [getD_lt (by omega), getD_lt (by omega), getD_lt (by omega), getD_lt (by omega)]; exact e2
  · rw [getD_lt (by omega), getD_lt (by omega), getD_lt (by omega), getD_lt (by omega)]; exact e3

/-- the bytes from i up to j -/
theorem slc_mid {k : IntKind} {u : Option Addr × Nat × Nat} {zs : List Int} (h : SlI k w u zs) {i j : Nat} (hij : i ≤ j) (hj : j ≤ zs.length) (hc : u.2.1 ≤ u.2.2) :
    ∃ q, slc u.1 u.2.1 u.2.2 1 (some (i : Int)) (some (j : Int)) none = some q ∧ SlI k w q ((zs.drop i).take (j - i)) ∧ ∀ x ∈ blkOf q, x ∈ blkOf u := by
  have hl := h.1
  have hjc : j ≤ u.2.2 := by omega
  refine ⟨(if u.2.2 = i then u.1 else u.1.map (·.add (i * 1)), j - i, u.2.2 - i), ?_, ⟨by simp; omega, fun h0 => ?_⟩, fun x hx => ?_⟩
  · simp [slc, bnd, hjc, hij]
  · simp only at h0
    obtain ⟨b, off, h1, h2, h3⟩ := h.2 (by omega)
    refine ⟨b, off + i, ?_, h2, fun m hm => ?_⟩
    · simp only
      rw [if_neg (by omega), h1]
      simp [addr_add]
    · simp only [List.length_take, List.length_drop] at hm
      have e1 : off + i + m = off + (i + m) := by omega
      rw [e1, h3 (i + m) (by omega)]
      simp
  · revert hx
    simp only [blkOf]
    split
    · rename_i a ha
      intro hx
      split at ha
      · rw [ha]; exact hx
      · cases hu : u.1 with
        | none => rw [hu] at ha; cases ha
        | some c =>
          rw [hu] at ha
          simp only [Option.map_some, Option.some.injEq] at ha
          subst ha
          unfold Addr.add at hx
          split at hx <;> exact hx
    · intro hx; cases hx

theorem getD_take {bs : List Int} {k i : Nat} (h : i < k) : (bs.take k).getD i 0 = bs.getD i 0 := by simp [List.getD, h]

theorem getD_zs {bs : List Int} (hz : Zs bs) (i : Nat) : 0 ≤ bs.getD i 0 ∧ bs.getD i 0 < 256 := by
  by_cases h : i < bs.length
  · rw [getD_lt h]; exact hz _ (List.getElem_mem h)
  · have : bs.getD i 0 = 0 := by simp [List.getD, Nat.le_of_not_lt h]
    rw [this]; decide

theorem decode16 {fb tb : Nat} {u : Option Addr × Nat × Nat} {bs : List Int} (h : Fm w fb tb) (hu : Sl8 w u bs) (hz : Zs bs) (hcap : u.2.1 ≤ u.2.2) (hd : 0 < bs.length → tb ∉ blkOf u) (hl : bs.length ≤ 140737488355328) :
    ∃ v' w', callF Try.prog 16 #[.pointer (some ⟨fb, 0, none⟩), .slice u.1 u.2.1 u.2.2] w = some (.tuple #[.slice v'.1 v'.2.1 v'.2.2, .int .i64 ((dec bs).2.1 : Int), .int .i64 (dec bs).2.2], w') ∧
      Own w' 5 1 v' ((dec bs).1.map (Value.int .u8)) ∧ Fm w' fb tb ∧ Fr [tb] w w' ∧ (∀ y ∈ blkOf v', w.heap.size ≤ y) := by
  have hul := hu.1
  by_cases h8 : bs.length < 8
  · have hdec : dec bs = ([], 0, 6) := by unfold dec; rw [if_pos h8]
    rw [hdec]
    obtain ⟨q, eq, uq, bq⟩ := slc_hi hu (j := bs.length) (Nat.le_refl _) hcap
    rw [List.take_length] at uq
    obtain ⟨b, n, s, w1, w2, w3, e1, e2, e3, ⟨n4, m4, e4⟩, f⟩ := head_short uq hz h8
    refine ⟨(none, 0, 0), w3.drew, g16_call ?_, Own.nil _ _ _, h.fr f (by simp) (by simp), f.nil, by simp [blkOf]⟩
    have hc : ¬ (8 : Int) < (u.2.1 : Int) := by omega
    have hm : (u.2.1 : Int) = ((bs.length : Nat) : Int) := by omega
    have h60 : ((6 : Int) != 0) = true := by decide
    unfold g16
    simp only [hc, Option.bind_some, asP_pointer, asB_bool, asI_int, asS_string, asSl_slice, asM_map, asTup0, asTup1, asTup2, asTup3, asTup4, asTup5, getD0, getD1, getD2, getD3, getD4, Bool.not_true, Bool.not_false, Bool.false_eq_true, Bool.true_eq_false, ↓reduceIte, decide_true, decide_false, Option.isNone_some, Option.isNone_none, Option.isSome_some, Option.isSome_none, beq_self_eq_true, bne_self_eq_false, Bool.and_true, Bool.true_and, Bool.and_false, Bool.false_and, not_true_eq_false, not_false_eq_true]
    rw [hm]
    simp only [eq, e1, e2, e3, e4, h60, Option.bind_some, asP_pointer, asB_bool, asI_int, asS_string, asSl_slice, asM_map, asTup0, asTup1, asTup2, asTup3, asTup4, asTup5, getD0, getD1, getD2, getD3, getD4, Bool.not_true, Bool.not_false, Bool.false_eq_true, Bool.true_eq_false, ↓reduceIte, decide_true, decide_false, Option.isNone_some, Option.isNone_none, Option.isSome_some, Option.isSome_none, beq_self_eq_true, bne_self_eq_false, Bool.and_true, Bool.true_and, Bool.and_false, Bool.false_and, not_true_eq_false, not_false_eq_true]
    rfl
  · obtain ⟨q, eq, uq, bq⟩ := slc_hi hu (j := 8) (by omega) hcap
    have zq : Zs (bs.take 8) := fun z hm => hz z (List.mem_of_mem_take hm)
    obtain ⟨b, w1, w2, w3, e1, e2, e3, ⟨n4, m4, e4⟩, f⟩ := head_long uq zq (by rw [List.length_take]; omega)
    rw [getD_take (by omega), getD_take (by omega), getD_take (by omega), getD_take (by omega)] at e2 e3
    generalize hn : un4 (bs.getD 0 0) (bs.getD 1 0) (bs.getD 2 0) (bs.getD 3 0) = n at e2
    generalize hs : un4 (bs.getD 4 0) (bs.getD 5 0) (bs.getD 6 0) (bs.getD 7 0) = s at e3
    have hn0 : 0 ≤ n ∧ n < 4294967296 := by
      have a := getD_zs hz 0; have b := getD_zs hz 1; have c := getD_zs hz 2; have d := getD_zs hz 3
      rw [← hn]; unfold un4; omega
    have hq8 : slc u.1 u.2.1 u.2.2 1 none (some (if (8 : Int) < (u.2.1 : Int) then 8 else (u.2.1 : Int))) none = some q := by
      by_cases hc : (8 : Int) < (u.2.1 : Int)
      · rw [if_pos hc]; exact eq
      · rw [if_neg hc]
        have : (u.2.1 : Int) = ((8 : Nat) : Int) := by omega
        rw [this]; exact eq
    have m3 := h.fr f (by simp) (by simp)
    by_cases hbig : n > 4096
    · have hdec : dec bs = ([], 0, 2) := by unfold dec; rw [if_neg h8]; simp only [hn]; rw [if_pos hbig]
      rw [hdec]
      refine ⟨(none, 0, 0), w3.drew, g16_call ?_, Own.nil _ _ _, m3, f.nil, by simp [blkOf]⟩
      unfold g16
      simp only [hq8, e1, e2, e3, e4, hbig, Option.bind_some, asP_pointer, asB_bool, asI_int, asS_string, asSl_slice, asM_map, asTup0, asTup1, asTup2, asTup3, asTup4, asTup5, getD0, getD1, getD2, getD3, getD4, Bool.not_true, Bool.not_false, Bool.false_eq_true, Bool.true_eq_false, ↓reduceIte, decide_true, decide_false, Option.isNone_some, Option.isNone_none, Option.isSome_some, Option.isSome_none, beq_self_eq_true, bne_self_eq_false, Bool.and_true, Bool.true_and, Bool.and_false, Bool.false_and, not_true_eq_false, not_false_eq_true]
      rfl
    · have hwn : IntKind.i64.wrap n = n := wrap_i64 (by omega) (by omega)
      have hw8 : IntKind.i64.wrap ((u.2.1 : Int) - 8) = (bs.length : Int) - 8 := by rw [wrap_i64 (by omega) (by omega)]; omega
      by_cases hend : (bs.length : Int) - 8 < n
      · have hdec : dec bs = ([], 0, 6) := by unfold dec; rw [if_neg h8]; simp only [hn]; rw [if_neg hbig, if_pos hend]
        rw [hdec]
        refine ⟨(none, 0, 0), w3.drew, g16_call ?_, Own.nil _ _ _, m3, f.nil, by simp [blkOf]⟩
        unfold g16
        simp only [hq8, e1, e2, e3, e4, hbig, hwn, hw8, hend, Option.bind_some, asP_pointer, asB_bool, asI_int, asS_string, asSl_slice, asM_map, asTup0, asTup1, asTup2, asTup3, asTup4, asTup5, getD0, getD1, getD2, getD3, getD4, Bool.not_true, Bool.not_false, Bool.false_eq_true, Bool.true_eq_false, ↓reduceIte, decide_true, decide_false, Option.isNone_some, Option.isNone_none, Option.isSome_some, Option.isSome_none, beq_self_eq_true, bne_self_eq_false, Bool.and_true, Bool.true_and, Bool.and_false, Bool.false_and, not_true_eq_false, not_false_eq_true]
        rfl
      · obtain ⟨nn, rfl⟩ := Int.eq_ofNat_of_zero_le hn0.1
        have hwe : IntKind.i64.wrap (8 + (nn : Int)) = ((8 + nn : Nat) : Int) := by rw [wrap_i64 (by omega) (by omega)]; omega
        have u3 := hu.fr3 f (by simp)
        obtain ⟨qm, em, um, bm⟩ := slc_mid u3 (i := 8) (j := 8 + nn) (by omega) (by omega) hcap
        rw [show 8 + nn - 8 = nn by omega] at um
        have zm : Zs ((bs.drop 8).take nn) := fun z hm => hz z (List.mem_of_mem_drop (List.mem_of_mem_take hm))
        have lm : ((bs.drop 8).take nn).length ≤ 140737488355328 := by rw [List.length_take]; omega
        obtain ⟨v5, w5, e5, o5, f5, hv5⟩ := copy8 um lm #[true, false]
        have m5 := m3.fr f5 (by simp) (by simp)
        have hsz : w.heap.size ≤ w3.drew.heap.size := f.size
        have htl := h.tbl.lt
        have ntb : tb ∉ blkOf v5 := fun hm => by have := hv5 _ hm; omega
        obtain ⟨w6, e6, t6, f6⟩ := sum13 m5.tbl o5.slI zm (fun _ => ntb) (by omega)
        have o6 := o5.fr f6 (by intro y hy hm; simp at hm; subst hm; exact ntb hy)
        have m6 : Fm w6 fb tb := ⟨m5.blk.fr f6 (by simpa using m5.ne), .inr t6, m5.ne⟩
        have F6 : Fr [tb] w w6 := (f.trans f5).nil.trans f6
        have cf : w5.cell? ⟨fb, 0, none⟩ = some (.pointer (some ⟨tb, 0, none⟩)) := m5.blk.cell 0
        have em' : slc u.1 u.2.1 u.2.2 1 (some 8) (some ((8 + nn : Nat) : Int)) none = some qm := em
        by_cases hsum : more 0 ((bs.drop 8).take nn) = s
        · have hdec : dec bs = ((bs.drop 8).take nn, 8 + nn, 0) := by
            unfold dec; rw [if_neg h8]; simp only [hn, hs]; rw [if_neg hbig, if_neg hend, Int.toNat_natCast, if_pos hsum]
          rw [hdec]
          refine ⟨v5, w6, g16_call ?_, o6, m6, F6, fun y hy => by have := hv5 y hy; omega⟩
          have hne : (more 0 ((bs.drop 8).take nn) != s) = false := by simpa using hsum
          unfold g16
          simp only [hq8, e1, e2, e3, e4, hbig, hwn, hw8, hend, hwe, em', e5, cf, e6, hne, Option.bind_some, asP_pointer, asB_bool, asI_int, asS_string, asSl_slice, asM_map, asTup0, asTup1, asTup2, asTup3, asTup4, asTup5, getD0, getD1, getD2, getD3, getD4, Bool.not_true, Bool.not_false, Bool.false_eq_true, Bool.true_eq_false, ↓reduceIte, decide_true, decide_false, Option.isNone_some, Option.isNone_none, Option.isSome_some, Option.isSome_none, beq_self_eq_true, bne_self_eq_false, Bool.and_true, Bool.true_and, Bool.and_false, Bool.false_and, not_true_eq_false, not_false_eq_true]
        · have hdec : dec bs = ([], 0, 8) := by
            unfold dec; rw [if_neg h8]; simp only [hn, hs]; rw [if_neg hbig, if_neg hend, Int.toNat_natCast, if_neg hsum]
          rw [hdec]
          refine ⟨(none, 0, 0), w6, g16_call ?_, Own.nil _ _ _, m6, F6, by simp [blkOf]⟩
          have hne : (more 0 ((bs.drop 8).take nn) != s) = true := by simpa using hsum
          unfold g16
          simp only [hq8, e1, e2, e3, e4, hbig, hwn, hw8, hend, hwe, em', e5, cf, e6, hne, Option.bind_some, asP_pointer, asB_bool, asI_int, asS_string, asSl_slice, asM_map, asTup0, asTup1, asTup2, asTup3, asTup4, asTup5, getD0, getD1, getD2, getD3, getD4, Bool.not_true, Bool.not_false, Bool.false_eq_true, Bool.true_eq_false, ↓reduceIte, decide_true, decide_false, Option.isNone_some, Option.isNone_none, Option.isSome_some, Option.isSome_none, beq_self_eq_true, bne_self_eq_false, Bool.and_true, Bool.true_and, Bool.and_false, Bool.false_and, not_true_eq_false, not_false_eq_true]
          rfl
end
end Go.Proofs.Yteekaakkaogpeaa
