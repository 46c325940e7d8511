/-
  FrameK: lemmas on what Go functions of this seat come to (for whatever arguments, as each says). No condition but those that stand in each lemma.
-/
import Derived.Test.YteekaakkaogpeaaFrameJ
import Derived.Test.YteekaakkaogpeaaLb6
namespace Go.Proofs.Yteekaakkaogpeaa
open Go Go.Ev Go.Crc
set_option maxRecDepth 100000
set_option linter.unusedVariables false
set_option linter.unusedSimpArgs false
section
variable {w : World}

theorem getD_drop {bs : List Int} {k i : Nat} : (bs.drop k).getD i 0 = bs.getD (k + i) 0 := by simp [List.getD]

/-- where the document's decoding ends -/
def toD (a : Nat) (d : List Int × Nat × Int) : Int := if d.2.2 = 0 then ((a + d.2.1 : Nat) : Int) else 0

theorem docdec15 {u : Option Addr × Nat × Nat} {bs : List Int} {a : Nat} (hu : Sl8 w u bs) (hz : Zs bs) (hcap : u.2.1 ≤ u.2.2) (ha : a ≤ bs.length) (hl : bs.length ≤ 140737488355328) :
    ∃ v' w', callF Try.prog 15 #[.slice u.1 u.2.1 u.2.2, .int .i64 (a : Int)] w = some (.tuple #[.slice v'.1 v'.2.1 v'.2.2, .int .i64 (toD a (dec (bs.drop a))), .int .i64 (dec (bs.drop a)).2.2], w') ∧
      Sl8 w' v' (dec (bs.drop a)).1 ∧ v'.2.1 ≤ v'.2.2 ∧ Fr [] w w' ∧ (∀ y ∈ blkOf v', y ∈ blkOf u) := by
  have hul := hu.1
  have hlen : (bs.drop a).length = bs.length - a := List.length_drop
  have f1 : Fr [] w (w.alloc (.cells #[.slice u.1 u.2.1 u.2.2, .int .i64 (a : Int), .int .i64 0] 64)) := Fr.alloc _
  have hb := Blk.new w [.slice u.1 u.2.1 u.2.2, .int .i64 (a : Int), .int .i64 0] 64
  have r1 : RdrD (w.alloc (.cells #[.slice u.1 u.2.1 u.2.2, .int .i64 (a : Int), .int .i64 0] 64)) w.heap.size u bs (a : Int) 0 := ⟨hb, hu.fr2 f1 (by simp), fun h0 hm => by
    obtain ⟨b, off, h1, h2, _⟩ := hu.2 (by omega)
    simp [blkOf, h1] at hm; omega⟩
  have hsz : (w.alloc (.cells #[.slice u.1 u.2.1 u.2.2, .int .i64 (a : Int), .int .i64 0] 64)).heap.size = w.heap.size + 1 := Array.size_push _
  generalize hw1 : w.alloc (.cells #[.slice u.1 u.2.1 u.2.2, .int .i64 (a : Int), .int .i64 0] 64) = w1 at f1 r1 hsz
  have nilS : ∀ x : World, Sl8 x (none, 0, 0) [] := fun x => ⟨rfl, fun h => absurd h (by decide)⟩
  have h60 : ((6 : Int) != 0) = true := by decide
  by_cases h8 : (bs.drop a).length < 8
  · have hdec : dec (bs.drop a) = ([], 0, 6) := by unfold dec; rw [if_pos h8]
    rw [hdec]
    have short : ∃ n s w2 w3, callF Try.prog 28 #[.pointer (some ⟨w.heap.size, 0, none⟩)] w1 = some (.int .u32 n, w2) ∧ callF Try.prog 28 #[.pointer (some ⟨w.heap.size, 0, none⟩)] w2 = some (.int .u32 s, w3) ∧
        w3.cell? ⟨w.heap.size, 2, none⟩ = some (.int .i64 6) ∧ Fr [w.heap.size] w1 w3 := by
      by_cases h4 : bs.length < a + 4
      · obtain ⟨w2, e2, r2, f2⟩ := fixed28_end r1 h4 ha hl
        have e3 := fixed28_bad r2 (by decide)
        exact ⟨0, 0, w2, w2, e2, e3, r2.blk.cell 2, f2⟩
      · obtain ⟨w2, e2, r2, f2⟩ := fixed28_ok r1 hz (by omega) hl
        obtain ⟨w3, e3, r3, f3⟩ := fixed28_end r2 (by omega) (by omega) hl
        exact ⟨_, 0, w2, w3, e2, e3, r3.blk.cell 2, (Fr.mono (Fr.app f2 f3) (by have z0_ := Fr.size f2; have z1_ := Fr.size f3; intro y_ hy_ hl_; grind [blkOf]))⟩
    obtain ⟨n, s, w2, w3, e2, e3, c3, f3⟩ := short
    refine ⟨(none, 0, 0), w3, g15_call ?_, nilS _, Nat.le_refl _, (Fr.mono (Fr.app f1 f3) (by have z0_ := Fr.size f1; have z1_ := Fr.size f3; intro y_ hy_ hl_; grind [blkOf])), by simp [blkOf]⟩
    unfold g15
    simp only [hw1, e2, e3, addr_add, Nat.zero_add, c3, h60, Option.bind_some, asP_pointer, asB_bool, asI_int, asS_string, asSl_slice, asM_map, asTup0, asTup1, asTup2, asTup3, asTup4, asTup5, getD0, getD1, getD2, getD3, getD4, Bool.not_true, Bool.not_false, Bool.false_eq_true, Bool.true_eq_false, ↓reduceIte, decide_true, decide_false, Option.isNone_some, Option.isNone_none, Option.isSome_some, Option.isSome_none, beq_self_eq_true, bne_self_eq_false, Bool.and_true, Bool.true_and, Bool.and_false, Bool.false_and, not_true_eq_false, not_false_eq_true]
    all_goals rfl
  · obtain ⟨w2, e2, r2, f2⟩ := fixed28_ok r1 hz (by omega) hl
    obtain ⟨w3, e3, r3, f3⟩ := fixed28_ok r2 hz (by omega) hl
    have d0 := @getD_drop bs a 0
    have d1 := @getD_drop bs a 1
    have d2 := @getD_drop bs a 2
    have d3 := @getD_drop bs a 3
    have d4 := @getD_drop bs a 4
    have d5 := @getD_drop bs a 5
    have d6 := @getD_drop bs a 6
    have d7 := @getD_drop bs a 7
    rw [Nat.add_zero] at d0
    rw [← d0, ← d1, ← d2, ← d3] at e2
    rw [show a + 4 + 1 = a + 5 from rfl, show a + 4 + 2 = a + 6 from rfl, show a + 4 + 3 = a + 7 from rfl, ← d4, ← d5, ← d6, ← d7] at e3
    have hz' : Zs (bs.drop a) := fun z hm => hz z (List.mem_of_mem_drop hm)
    generalize hn : un4 ((bs.drop a).getD 0 0) ((bs.drop a).getD 1 0) ((bs.drop a).getD 2 0) ((bs.drop a).getD 3 0) = n at e2
    generalize hs : un4 ((bs.drop a).getD 4 0) ((bs.drop a).getD 5 0) ((bs.drop a).getD 6 0) ((bs.drop a).getD 7 0) = s at e3
    have hn0 : 0 ≤ n ∧ n < 4294967296 := by
      have a := getD_zs hz' 0; have b := getD_zs hz' 1; have c := getD_zs hz' 2; have d := getD_zs hz' 3
      rw [← hn]; unfold un4; omega
    have c2 : w3.cell? ⟨w.heap.size, 2, none⟩ = some (.int .i64 0) := r3.blk.cell 2
    have c1 : w3.cell? ⟨w.heap.size, 1, none⟩ = some (.int .i64 ((a + 4 + 4 : Nat) : Int)) := r3.blk.cell 1
    have c1' : w3.drew.cell? ⟨w.heap.size, 1, none⟩ = some (.int .i64 ((a + 4 + 4 : Nat) : Int)) := r3.blk.cell 1
    have F3 : Fr [] w w3 := (Fr.mono (Fr.app (Fr.app f1 f2) f3) (by have z0_ := Fr.size f1; have z1_ := Fr.size f2; have z2_ := Fr.size f3; intro y_ hy_ hl_; grind [blkOf]))
    by_cases hbig : n > 4096
    · have hdec : dec (bs.drop a) = ([], 0, 2) := by unfold dec; rw [if_neg h8]; simp only [hn]; rw [if_pos hbig]
      rw [hdec]
      refine ⟨(none, 0, 0), w3, g15_call ?_, nilS _, Nat.le_refl _, F3, by simp [blkOf]⟩
      unfold g15
      simp only [hw1, e2, e3, addr_add, Nat.zero_add, c2, c1, hbig, Option.bind_some, asP_pointer, asB_bool, asI_int, asS_string, asSl_slice, asM_map, asTup0, asTup1, asTup2, asTup3, asTup4, asTup5, getD0, getD1, getD2, getD3, getD4, Bool.not_true, Bool.not_false, Bool.false_eq_true, Bool.true_eq_false, ↓reduceIte, decide_true, decide_false, Option.isNone_some, Option.isNone_none, Option.isSome_some, Option.isSome_none, beq_self_eq_true, bne_self_eq_false, Bool.and_true, Bool.true_and, Bool.and_false, Bool.false_and, not_true_eq_false, not_false_eq_true]
      all_goals rfl
    · obtain ⟨nn, rfl⟩ := Int.eq_ofNat_of_zero_le hn0.1
      have hwn : IntKind.i64.wrap (nn : Int) = nn := wrap_i64 (by omega) (by omega)
      have hwe : IntKind.i64.wrap (((a + 4 + 4 : Nat) : Int) + (nn : Int)) = ((a + (8 + nn) : Nat) : Int) := by rw [wrap_i64 (by omega) (by omega)]; omega
      by_cases hend : ((bs.drop a).length : Int) - 8 < nn
      · have hdec : dec (bs.drop a) = ([], 0, 6) := by unfold dec; rw [if_neg h8]; simp only [hn]; rw [if_neg hbig, if_pos hend]
        rw [hdec]
        refine ⟨(none, 0, 0), w3, g15_call ?_, nilS _, Nat.le_refl _, F3, by simp [blkOf]⟩
        have hgt : ((a + (8 + nn) : Nat) : Int) > (u.2.1 : Int) := by omega
        unfold g15
        simp only [hw1, e2, e3, addr_add, Nat.zero_add, c2, c1, hbig, hwn, hwe, hgt, Option.bind_some, asP_pointer, asB_bool, asI_int, asS_string, asSl_slice, asM_map, asTup0, asTup1, asTup2, asTup3, asTup4, asTup5, getD0, getD1, getD2, getD3, getD4, Bool.not_true, Bool.not_false, Bool.false_eq_true, Bool.true_eq_false, ↓reduceIte, decide_true, decide_false, Option.isNone_some, Option.isNone_none, Option.isSome_some, Option.isSome_none, beq_self_eq_true, bne_self_eq_false, Bool.and_true, Bool.true_and, Bool.and_false, Bool.false_and, not_true_eq_false, not_false_eq_true]
        all_goals rfl
      · have hgt : ¬ ((a + (8 + nn) : Nat) : Int) > (u.2.1 : Int) := by omega
        have u3 := (hu.fr2 F3 (by simp)).slC.cut (i := a + 4 + 4) (j := a + (8 + nn)) (by omega) (by omega) hcap
        have es := slc_cut (u := u) (n := 1) (i := a + 4 + 4) (j := a + (8 + nn)) (by omega) (by omega)
        have bq := @blkOf_cut u (a + 4 + 4) 1 (a + (8 + nn) - (a + 4 + 4)) (u.2.2 - (a + 4 + 4))
        have hval : List.take ((a + (8 + nn) - (a + 4 + 4)) * 1) (List.drop ((a + 4 + 4) * 1) (bs.map (Value.int .u8))) = (((bs.drop a).drop 8).take nn).map (Value.int .u8) := by
          rw [List.map_take, List.map_drop, List.map_drop, List.drop_drop, show a + (8 + nn) - (a + 4 + 4) = nn by omega]
          simp only [Nat.mul_one]
        rw [hval] at u3
        have hqc : (a + (8 + nn) - (a + 4 + 4)) ≤ u.2.2 - (a + 4 + 4) := by omega
        generalize hq : ((if u.2.2 = a + 4 + 4 then u.1 else u.1.map (·.add ((a + 4 + 4) * 1))), a + (8 + nn) - (a + 4 + 4), u.2.2 - (a + 4 + 4)) = q at u3 es bq
        have hq2 : q.2.1 ≤ q.2.2 := by rw [← hq]; exact hqc
        have zq : Zs (((bs.drop a).drop 8).take nn) := fun z hm => hz' z (List.mem_of_mem_drop (List.mem_of_mem_take hm))
        have e4 := ref12 (w := w3.drew) (s := 0) (by decide) (SlC.ints u3) zq (by simp; omega)
        have F4 : Fr [] w w3.drew := F3.trans (Fr.drew _ _)
        by_cases hsum : more 0 (((bs.drop a).drop 8).take nn) = s
        · have hdec : dec (bs.drop a) = (((bs.drop a).drop 8).take nn, 8 + nn, 0) := by
            unfold dec; rw [if_neg h8]; simp only [hn, hs]; rw [if_neg hbig, if_neg hend, Int.toNat_natCast, if_pos hsum]
          rw [hdec]
          refine ⟨q, w3.drew.drew, g15_call ?_, (SlC.ints u3).fr2 ((Fr.drew [] w3).trans (Fr.drew _ _)) (by simp), hq2, F4.trans (Fr.drew _ _), bq⟩
          have hne : (more 0 (((bs.drop a).drop 8).take nn) != s) = false := by simpa using hsum
          have hto : toD a (((bs.drop a).drop 8).take nn, 8 + nn, 0) = ((a + (8 + nn) : Nat) : Int) := by unfold toD; rw [if_pos rfl]
          have c1'' : w3.drew.drew.cell? ⟨w.heap.size, 1, none⟩ = some (.int .i64 ((a + 4 + 4 : Nat) : Int)) := r3.blk.cell 1
          rw [hto]
          unfold g15
          simp only [hw1, e2, e3, addr_add, Nat.zero_add, c2, c1, c1', hbig, hwn, hwe, hgt, es, e4, hne, c1'', Option.bind_some, asP_pointer, asB_bool, asI_int, asS_string, asSl_slice, asM_map, asTup0, asTup1, asTup2, asTup3, asTup4, asTup5, getD0, getD1, getD2, getD3, getD4, Bool.not_true, Bool.not_false, Bool.false_eq_true, Bool.true_eq_false, ↓reduceIte, decide_true, decide_false, Option.isNone_some, Option.isNone_none, Option.isSome_some, Option.isSome_none, beq_self_eq_true, bne_self_eq_false, Bool.and_true, Bool.true_and, Bool.and_false, Bool.false_and, not_true_eq_false, not_false_eq_true]
        · have hdec : dec (bs.drop a) = ([], 0, 8) := by
            unfold dec; rw [if_neg h8]; simp only [hn, hs]; rw [if_neg hbig, if_neg hend, Int.toNat_natCast, if_neg hsum]
          rw [hdec]
          refine ⟨(none, 0, 0), w3.drew, g15_call ?_, nilS _, Nat.le_refl _, F4, by simp [blkOf]⟩
          have hne : (more 0 (((bs.drop a).drop 8).take nn) != s) = true := by simpa using hsum
          unfold g15
          simp only [hw1, e2, e3, addr_add, Nat.zero_add, c2, c1, c1', hbig, hwn, hwe, hgt, es, e4, hne, Option.bind_some, asP_pointer, asB_bool, asI_int, asS_string, asSl_slice, asM_map, asTup0, asTup1, asTup2, asTup3, asTup4, asTup5, getD0, getD1, getD2, getD3, getD4, Bool.not_true, Bool.not_false, Bool.false_eq_true, Bool.true_eq_false, ↓reduceIte, decide_true, decide_false, Option.isNone_some, Option.isNone_none, Option.isSome_some, Option.isSome_none, beq_self_eq_true, bne_self_eq_false, Bool.and_true, Bool.true_and, Bool.and_false, Bool.false_and, not_true_eq_false, not_false_eq_true]
          all_goals rfl
end

/-! ## scans -/
theorem dec_ok {bs : List Int} (h : (dec bs).2.2 = 0) : 8 ≤ (dec bs).2.1 ∧ (dec bs).2.1 ≤ bs.length ∧ (dec bs).2.1 = 8 + (dec bs).1.length := by
  unfold dec at *
  split
  · rename_i h1; rw [if_pos h1] at h; simp at h
  · rename_i h1
    rw [if_neg h1] at h
    simp only at *
    split
    · rename_i h2; rw [if_pos h2] at h; simp at h
    · rename_i h2
      rw [if_neg h2] at h
      split
      · rename_i h3; rw [if_pos h3] at h; simp at h
      · rename_i h3
        rw [if_neg h3] at h
        split
        · simp only [List.length_take, List.length_drop]; omega
        · rename_i h4; rw [if_neg h4] at h; simp at h

/-- the payloads, how many bytes they have, what ends them -/
def scan (bs : List Int) : List (List Int) × Nat × Int :=
  if h0 : bs.length = 0 then ([], 0, 0)
  else if h : (dec bs).2.2 = 0 then
    ((dec bs).1 :: (scan (bs.drop (dec bs).2.1)).1, (dec bs).2.1 + (scan (bs.drop (dec bs).2.1)).2.1, (scan (bs.drop (dec bs).2.1)).2.2)
  else ([], 0, (dec bs).2.2)
termination_by bs.length
decreasing_by all_goals (have := dec_ok h; simp only [List.length_drop]; omega)

theorem scan_nil {bs : List Int} (h0 : bs.length = 0) : scan bs = ([], 0, 0) := by rw [scan, dif_pos h0]
theorem scan_bad {bs : List Int} (h0 : ¬ bs.length = 0) (h : ¬ (dec bs).2.2 = 0) : scan bs = ([], 0, (dec bs).2.2) := by rw [scan, dif_neg h0, dif_neg h]
theorem scan_ok {bs : List Int} (h0 : ¬ bs.length = 0) (h : (dec bs).2.2 = 0) :
    scan bs = ((dec bs).1 :: (scan (bs.drop (dec bs).2.1)).1, (dec bs).2.1 + (scan (bs.drop (dec bs).2.1)).2.1, (scan (bs.drop (dec bs).2.1)).2.2) := by
  rw [scan, dif_neg h0, dif_pos h]

theorem info22 : ∃ i z, Try.prog.info? 22 = some i ∧ i.zero = some z ∧ i.size = 1 ∧ i.bytes = 24 ∧ z.cells.size = 1 := by
  have hsz : (match Try.prog.info? 22 with | some i => (decide (i.size = 1) && decide (i.bytes = 24) && (match i.zero with | some z => decide (z.cells.size = 1) | none => false)) | none => false) = true := by kernel_rfl
  cases hi : Try.prog.info? 22 with
  | none => rw [hi] at hsz; cases hsz
  | some i =>
    rw [hi] at hsz
    cases hz : i.zero with
    | none => simp [hz] at hsz
    | some z => simp [hz] at hsz; exact ⟨i, z, rfl, hz, hsz.1.1, hsz.1.2, hsz.2⟩

/-- append of one slice to a list of them -/
theorem app22 {w : World} {v q : Option Addr × Nat × Nat} {qs : List (Option Addr × Nat × Nat)} (h : Own w 22 1 v (qs.map slV)) (hl : qs.length ≤ 1073741824) (cs : Array Bool) :
    ∃ v' w', callB Try.prog .append #[37, 37] 37 cs #[.slice v.1 v.2.1 v.2.2, .slice (some ⟨w.heap.size, 0, none⟩) 1 1] (w.alloc (.cells #[.slice q.1 q.2.1 q.2.2] 22)) = some (.slice v'.1 v'.2.1 v'.2.2, w') ∧
      Own w' 22 1 v' ((qs ++ [q]).map slV) ∧ Fr (blkOf v) w w' ∧ (v'.1 = v.1 ∨ ∀ y ∈ blkOf v', w.heap.size ≤ y) := by
  obtain ⟨i, z, hi, hz, h1, h2, h3⟩ := info22
  have hl1 := h.len
  simp only [List.length_map, Nat.mul_one] at hl1
  have hml : maxLen = 9223372036854775807 := by decide
  have f0 : Fr [] w (w.alloc (.cells #[.slice q.1 q.2.1 q.2.2] 22)) := Fr.alloc _
  have hn := Blk.new w [.slice q.1 q.2.1 q.2.2] 22
  have hs : SlC (w.alloc (.cells #[.slice q.1 q.2.1 q.2.2] 22)) 1 (some ⟨w.heap.size, 0, none⟩, 1, 1) [slV q] := ⟨rfl, fun _ => ⟨w.heap.size, 0, rfl, hn.lt, fun j hj => by
    rw [hn.cell]
    simp only [List.length_cons, List.length_nil] at hj
    have : j = 0 := by omega
    subst this; rfl⟩⟩
  have hsz : (w.alloc (.cells #[.slice q.1 q.2.1 q.2.2] 22)).heap.size = w.heap.size + 1 := Array.size_push _
  have h' := h.fr f0 (by simp)
  generalize w.alloc (.cells #[.slice q.1 q.2.1 q.2.2] 22) = w1 at *
  obtain ⟨v', w', e, _, o, f, hv⟩ := callB_append (P := Try.prog) (t := 37) (tx := 37) (ty := 37) (consts := cs) Try.underlying37 hi hz h1 h2 h3 (d := .slice 22) Try.underlying37 (by intro k hk; cases hk) h'
    (x := .slice (some ⟨w.heap.size, 0, none⟩) 1 1) (m := 1) (news := [slV q]) rfl rfl
    (fun w' hw' => by
      have := SlC.firstCells (P := Try.prog) (w' := w') hs (m := 1) (by simp) hw'
      simpa using this) (by simp [slV]) (by omega) (by omega)
  refine ⟨v', w', e, ?_, (Fr.mono (Fr.app f0 f) (by have z0_ := Fr.size f0; have z1_ := Fr.size f; intro y_ hy_ hl_; grind [blkOf])), ?_⟩
  · rw [List.map_append]; exact o
  · rcases hv with hv | hv
    · exact .inl hv.1
    · right; rw [hv]; intro y hy; simp at hy; omega
end Go.Proofs.Yteekaakkaogpeaa
