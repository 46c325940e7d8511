/-
  WalA: lemmas on what Go functions of this seat come to (for whatever arguments, as each says). No condition but those that stand in each lemma.
-/
import Derived.Test.YtnflklkjjjlpaaaWalDiskJ
import Derived.Test.YtnflklkjjjlpaaaWalFrameN
import Derived.Test.YtnflklkjjjlpaaaWalF1
namespace Go.Proofs.Ytnflklkjjjlpaaa
open Go Go.Ev Go.Crc
set_option maxRecDepth 100000
set_option linter.unusedVariables false
set_option linter.unusedSimpArgs false

/-- a log's file: on which disk, its name, its framer, how many payloads -/
structure Wl (w : World) (wb fb tb b : Nat) (name : ByteArray) (count : Int) : Prop where
  blk : Blk w wb [.pointer (some ⟨b, 0, none⟩), .string name, .pointer (some ⟨fb, 0, none⟩), .int .i64 count] 64
  fm : Fm w fb tb

/-- the blocks of a log -/
def Xw (wb fb tb : Nat) (y : Nat) : Prop := y = wb ∨ y = fb ∨ y = tb

theorem Wl.fr {w w' : World} {wb fb tb b : Nat} {name : ByteArray} {count : Int} {S : List Nat} (h : Wl w wb fb tb b name count) (f : Fr S w w') (hS : ∀ y ∈ S, ¬ Xw wb fb tb y) : Wl w' wb fb tb b name count :=
  ⟨h.blk.fr f (fun hm => hS _ hm (.inl rfl)), h.fm.fr f (fun hm => hS _ hm (.inr (.inl rfl))) (fun hm => hS _ hm (.inr (.inr rfl)))⟩
theorem Wl.lt {w : World} {wb fb tb b : Nat} {name : ByteArray} {count : Int} (h : Wl w wb fb tb b name count) : ∀ y, Xw wb fb tb y → y < w.heap.size := by
  intro y hy
  rcases hy with hy | hy | hy <;> subst hy
  · exact h.blk.lt
  · exact h.fm.blk.lt
  · exact h.fm.tbl.lt
theorem Wl.ne {w : World} {wb fb tb b : Nat} {name : ByteArray} {count : Int} (h : Wl w wb fb tb b name count) : wb ≠ fb ∧ wb ≠ tb ∧ fb ≠ tb := by
  refine ⟨h.blk.ne h.fm.blk (by decide), ?_, h.fm.ne⟩
  rcases h.fm.tbl with ht | ht
  · exact h.blk.ne ht (by decide)
  · exact h.blk.ne ht (by decide)

section
variable {w : World} {D : Nat → Prop} {b : Nat} {A : List (ByteArray × FV)} {fuse : Int} {dead : Bool}

/-- what Append answers: errno, the disk -/
def wappA (A : List (ByteArray × FV)) (fuse : Int) (dead : Bool) (n : ByteArray) (p : List Int) : Int × List (ByteArray × FV) × Int × Bool :=
  if p.length > 4096 then (2, A, fuse, dead) else appA A fuse dead n (enc p)

theorem append14 {wb fb tb : Nat} {name : ByteArray} {count : Nat} (h : Dk w D b A fuse dead) (hw : Wl w wb fb tb b name count) (hX : ∀ y, Xw wb fb tb y → ¬ D y) {u : Option Addr × Nat × Nat} {p : List Int} (hu : Sl8 w u p) (hz : Zs p) (hd : 0 < p.length → tb ∉ blkOf u)
    (hc : (count : Int) < 9223372036854775807) :
    ∃ w' D', callF Try.prog 14 #[.pointer (some ⟨wb, 0, none⟩), .slice u.1 u.2.1 u.2.2] w = some (.int .i64 (wappA A fuse dead name p).1, w') ∧
      Dk w' D' b (wappA A fuse dead name p).2.1 (wappA A fuse dead name p).2.2.1 (wappA A fuse dead name p).2.2.2 ∧
      Wl w' wb fb tb b name (if (wappA A fuse dead name p).1 = 0 then count + 1 else count : Nat) ∧ (∀ y, Xw wb fb tb y → ¬ D' y) ∧
      Chg (fun y => D y ∨ Xw wb fb tb y) w w' (fun y => D' y ∨ Xw wb fb tb y) ∧ (∀ y, D y → D' y) ∧ (∀ y, D' y → D y ∨ w.heap.size ≤ y) := by
  have c2 : w.cell? ⟨wb, 2, none⟩ = some (.pointer (some ⟨fb, 0, none⟩)) := hw.blk.cell 2
  obtain ⟨nf, nt, nft⟩ := hw.ne
  have hXl := hw.lt
  obtain ⟨v1, w1, e1, o1, m1, f1, h1⟩ := encodeR hw.fm hu hz hd
  by_cases hl : p.length ≤ 4096
  · have er : encR p = (enc p, 0) := by unfold encR; rw [if_pos hl]
    have ea : wappA A fuse dead name p = appA A fuse dead name (enc p) := by unfold wappA; rw [if_neg (by omega)]
    rw [er] at e1 o1
    rw [ea]
    have h00 : ((0 : Int) != 0) = false := by decide
    have d1 := h.fr f1 (by intro y hy _; simp at hy; subst hy; exact hX _ (.inr (.inr rfl)))
    have d1' := d1.fr (Fr.drew [] w1) (by simp)
    have b1 := hw.blk.fr f1 (by simpa using nt)
    have c0 : w1.drew.cell? ⟨wb, 0, none⟩ = some (.pointer (some ⟨b, 0, none⟩)) := b1.drew.cell 0
    have c1 : w1.drew.cell? ⟨wb, 1, none⟩ = some (.string name) := b1.drew.cell 1
    have zz := f1.size
    obtain ⟨w2, D2, e2, d2, g2⟩ := append10 d1' name (o1.drew.slI) (enc_zs hz) o1.le (fun _ y hy hm => by have := h1 y hy; have := h.lt y hm; omega) (by rw [enc_length]; omega)
    have n2 := g2.new
    have up2 := g2.up
    obtain ⟨S2, f2, hS2⟩ := g2.fr
    have hX2 : ∀ y, Xw wb fb tb y → ¬ D2 y := by
      intro y hy hm
      rcases n2 y hm with hh | hh
      · exact hX y hy hh
      · have := hXl y hy
        have : w1.drew.heap.size = w1.heap.size := rfl
        omega
    have wl1 : Wl w1 wb fb tb b name count := ⟨b1, m1⟩
    have wl2 : Wl w2 wb fb tb b name count := (wl1.fr (Fr.drew [] w1) (by simp)).fr f2 (fun y hy hx => hX y hx (hS2 y hy))
    have fdr := Fr.drew [] w1
    have F2 : Fr (tb :: S2) w w2 := (Fr.mono (Fr.app (Fr.app f1 fdr) f2) (by have z0_ := Fr.size f1; have z1_ := Fr.size fdr; have z2_ := Fr.size f2; intro y_ hy_ hl_; grind [blkOf]))
    have fin : ∀ w3 : World, Fr [wb] w2 w3 → Chg (fun y => D y ∨ Xw wb fb tb y) w w3 (fun y => D2 y ∨ Xw wb fb tb y) := by
      intro w3 f3
      refine ⟨⟨wb :: tb :: S2, (Fr.mono (Fr.app F2 f3) (by have z0_ := Fr.size F2; have z1_ := Fr.size f3; intro y_ hy_ hl_; grind [blkOf])), ?_⟩, fun y hy => hy.imp (up2 y) id, fun y hy => ?_⟩
      · intro y hy
        simp only [List.mem_cons] at hy
        rcases hy with hy | hy | hy
        · exact .inr (.inl hy)
        · exact .inr (.inr (.inr hy))
        · exact .inl (hS2 y hy)
      · rcases hy with hy | hy
        · rcases n2 y hy with hh | hh
          · exact .inl (.inl hh)
          · right
            have : w1.drew.heap.size = w1.heap.size := rfl
            omega
        · exact .inl (.inr hy)
    have new2 : ∀ y, D2 y → D y ∨ w.heap.size ≤ y := by
      intro y hy
      rcases n2 y hy with hh | hh
      · exact .inl hh
      · right
        have : w1.drew.heap.size = w1.heap.size := rfl
        omega
    by_cases hok : (appA A fuse dead name (enc p)).1 = 0
    · rw [if_pos hok]
      have c3 : w2.cell? ⟨wb, 3, none⟩ = some (.int .i64 (count : Int)) := wl2.blk.cell 3
      have hs := wrap_succ (n := count) (by omega)
      have t3 : st1 w2 ⟨wb, 3, none⟩ (.int .i64 ((count + 1 : Nat) : Int)) = some (w2.setCell ⟨wb, 3, none⟩ (.int .i64 ((count + 1 : Nat) : Int))) := wl2.blk.st1 (by simp) rfl
      have f3 : Fr [wb] w2 (w2.setCell ⟨wb, 3, none⟩ (.int .i64 ((count + 1 : Nat) : Int))) := Fr.setCell
      have b3 := wl2.blk.set 3 (.int .i64 ((count + 1 : Nat) : Int))
      simp only [List.set_cons_succ, List.set_cons_zero] at b3
      refine ⟨_, D2, g14_call ?_, d2.fr f3 (by intro y hy _; simp at hy; subst hy; exact hX2 _ (.inl rfl)), ⟨b3, wl2.fm.fr f3 (by simpa using nf.symm) (by simpa using nt.symm)⟩, hX2, fin _ f3, up2, new2⟩
      have hz0 : ((appA A fuse dead name (enc p)).1 == 0) = true := by simpa using hok
      unfold g14
      simp only [addr_add, Nat.zero_add, c2, e1, h00, c0, c1, e2, hz0, c3, hs, t3, Option.bind_some, asP_pointer, asB_bool, asI_int, asS_string, asSl_slice, asM_map, asTup0, asTup1, asTup2, asTup3, asTup4, asTup5, getD0, getD1, getD2, getD3, getD4, Bool.not_true, Bool.not_false, Bool.false_eq_true, Bool.true_eq_false, ↓reduceIte, decide_true, decide_false, Option.isNone_some, Option.isNone_none, Option.isSome_some, Option.isSome_none, beq_self_eq_true, bne_self_eq_false, Bool.and_true, Bool.true_and, Bool.and_false, Bool.false_and, not_true_eq_false, not_false_eq_true]
    · rw [if_neg hok]
      refine ⟨w2, D2, g14_call ?_, d2, wl2, hX2, fin _ (Fr.refl _ _), up2, new2⟩
      have hz0 : ((appA A fuse dead name (enc p)).1 == 0) = false := by simpa using hok
      unfold g14
      simp only [addr_add, Nat.zero_add, c2, e1, h00, c0, c1, e2, hz0, Option.bind_some, asP_pointer, asB_bool, asI_int, asS_string, asSl_slice, asM_map, asTup0, asTup1, asTup2, asTup3, asTup4, asTup5, getD0, getD1, getD2, getD3, getD4, Bool.not_true, Bool.not_false, Bool.false_eq_true, Bool.true_eq_false, ↓reduceIte, decide_true, decide_false, Option.isNone_some, Option.isNone_none, Option.isSome_some, Option.isSome_none, beq_self_eq_true, bne_self_eq_false, Bool.and_true, Bool.true_and, Bool.and_false, Bool.false_and, not_true_eq_false, not_false_eq_true]
  · have er : encR p = ([], 2) := by unfold encR; rw [if_neg hl]
    have ea : wappA A fuse dead name p = (2, A, fuse, dead) := by unfold wappA; rw [if_pos (by omega)]
    rw [er] at e1 o1
    rw [ea]
    have h20 : ((2 : Int) != 0) = true := by decide
    have d1 := h.fr f1 (by intro y hy _; simp at hy; subst hy; exact hX _ (.inr (.inr rfl)))
    have b1 := hw.blk.fr f1 (by simpa using nt)
    refine ⟨w1, D, g14_call ?_, d1, ⟨b1, m1⟩, hX, ⟨⟨[tb], f1, by intro y hy; simp at hy; subst hy; exact .inr (.inr (.inr rfl))⟩, fun _ => id, fun _ => .inl⟩, fun _ => id, fun _ => .inl⟩
    unfold g14
    simp only [addr_add, Nat.zero_add, c2, e1, h20, Option.bind_some, asP_pointer, asB_bool, asI_int, asS_string, asSl_slice, asM_map, asTup0, asTup1, asTup2, asTup3, asTup4, asTup5, getD0, getD1, getD2, getD3, getD4, Bool.not_true, Bool.not_false, Bool.false_eq_true, Bool.true_eq_false, ↓reduceIte, decide_true, decide_false, Option.isNone_some, Option.isNone_none, Option.isSome_some, Option.isSome_none, beq_self_eq_true, bne_self_eq_false, Bool.and_true, Bool.true_and, Bool.and_false, Bool.false_and, not_true_eq_false, not_false_eq_true]

theorem sync23 {wb fb tb : Nat} {name : ByteArray} {count : Int} (h : Dk w D b A fuse dead) (hw : Wl w wb fb tb b name count) (hX : ∀ y, Xw wb fb tb y → ¬ D y) :
    ∃ w', callF Try.prog 23 #[.pointer (some ⟨wb, 0, none⟩)] w = some (.int .i64 (syncA A dead name).1, w') ∧ Dk w' D b (syncA A dead name).2 fuse dead ∧ Wl w' wb fb tb b name count ∧ Chg D w w' D := by
  have c0 : w.drew.cell? ⟨wb, 0, none⟩ = some (.pointer (some ⟨b, 0, none⟩)) := hw.blk.drew.cell 0
  have c1 : w.drew.cell? ⟨wb, 1, none⟩ = some (.string name) := hw.blk.drew.cell 1
  have fd := Fr.drew [] w
  obtain ⟨w2, e2, d2, g2⟩ := sync13 (h.fr fd (by simp)) name
  obtain ⟨S2, f2, hS2⟩ := g2.fr
  have wl2 : Wl w2 wb fb tb b name count := (hw.fr fd (by simp)).fr f2 (fun y hy hx => hX y hx (hS2 y hy))
  refine ⟨w2, g23_call ?_, d2, wl2, ⟨⟨S2, (Fr.mono (Fr.app fd f2) (by have z0_ := Fr.size fd; have z1_ := Fr.size f2; intro y_ hy_ hl_; grind [blkOf])), hS2⟩, fun _ => id, fun _ => .inl⟩⟩
  unfold g23
  simp only [addr_add, Nat.zero_add, c0, c1, e2, Option.bind_some, asP_pointer, asB_bool, asI_int, asS_string, asSl_slice, asM_map, asTup0, asTup1, asTup2, asTup3, asTup4, asTup5, getD0, getD1, getD2, getD3, getD4, Bool.not_true, Bool.not_false, Bool.false_eq_true, Bool.true_eq_false, ↓reduceIte, decide_true, decide_false, Option.isNone_some, Option.isNone_none, Option.isSome_some, Option.isSome_none, beq_self_eq_true, bne_self_eq_false, Bool.and_true, Bool.true_and, Bool.and_false, Bool.false_and, not_true_eq_false, not_false_eq_true]

theorem count18 {wb fb tb : Nat} {name : ByteArray} {count : Int} (hw : Wl w wb fb tb b name count) : callF Try.prog 18 #[.pointer (some ⟨wb, 0, none⟩)] w = some (.int .i64 count, w) := by
  have c3 : w.cell? ⟨wb, 3, none⟩ = some (.int .i64 count) := hw.blk.cell 3
  refine g18_call ?_
  unfold g18
  simp only [addr_add, Nat.zero_add, c3, Option.bind_some, asP_pointer, asB_bool, asI_int, asS_string, asSl_slice, asM_map, asTup0, asTup1, asTup2, asTup3, asTup4, asTup5, getD0, getD1, getD2, getD3, getD4, Bool.not_true, Bool.not_false, Bool.false_eq_true, Bool.true_eq_false, ↓reduceIte, decide_true, decide_false, Option.isNone_some, Option.isNone_none, Option.isSome_some, Option.isSome_none, beq_self_eq_true, bne_self_eq_false, Bool.and_true, Bool.true_and, Bool.and_false, Bool.false_and, not_true_eq_false, not_false_eq_true]

/-- what Open answers: errno, the payloads, the disk -/
def openE (A : List (ByteArray × FV)) (fuse : Int) (dead : Bool) (n : ByteArray) : Int × List (ByteArray × FV) × Int × Bool :=
  if (readA A dead n).2 = 4 then appA A fuse dead n [] else ((readA A dead n).2, A, fuse, dead)
def openA (A : List (ByteArray × FV)) (fuse : Int) (dead : Bool) (n : ByteArray) : Int × List (List Int) × List (ByteArray × FV) × Int × Bool :=
  if (openE A fuse dead n).1 = 0 then
    (0, (scan (readA A dead n).1).1, if (scan (readA A dead n).1).2.1 < (readA A dead n).1.length then (cutA (openE A fuse dead n).2.1 (openE A fuse dead n).2.2.2 n ((scan (readA A dead n).1).2.1 : Int)).2 else (openE A fuse dead n).2.1, (openE A fuse dead n).2.2.1, (openE A fuse dead n).2.2.2)
  else ((openE A fuse dead n).1, [], (openE A fuse dead n).2.1, (openE A fuse dead n).2.2.1, (openE A fuse dead n).2.2.2)

theorem scan_le (bs : List Int) : (scan bs).2.1 ≤ bs.length := by
  suffices H : ∀ n (bs : List Int), bs.length ≤ n → (scan bs).2.1 ≤ bs.length from H _ bs (Nat.le_refl _)
  intro n
  induction n with
  | zero => intro bs h; rw [scan_nil (by omega)]; simp
  | succ n ih =>
    intro bs h
    by_cases h0 : bs.length = 0
    · rw [scan_nil h0]; simp
    · by_cases hk : (dec bs).2.2 = 0
      · have hd := dec_ok hk
        have hl : (bs.drop (dec bs).2.1).length = bs.length - (dec bs).2.1 := List.length_drop
        have i1 := ih (bs.drop (dec bs).2.1) (by omega)
        rw [scan_ok h0 hk]
        simp only; omega
      · rw [scan_bad h0 hk]; simp

theorem open10 (h : Dk w D b A fuse dead) (name : ByteArray) :
    ∃ w' D', Dk w' D' b (openA A fuse dead name).2.2.1 (openA A fuse dead name).2.2.2.1 (openA A fuse dead name).2.2.2.2 ∧ Chg D w w' D' ∧
      ((openA A fuse dead name).1 ≠ 0 ∧ callF Try.prog 10 #[.pointer (some ⟨b, 0, none⟩), .string name] w = some (.tuple #[.pointer none, .slice none 0 0, .int .i64 (openA A fuse dead name).1], w') ∨
       (openA A fuse dead name).1 = 0 ∧ ∃ (wb fb tb z : Nat) (q : Option Addr × Nat × Nat), callF Try.prog 10 #[.pointer (some ⟨b, 0, none⟩), .string name] w = some (.tuple #[.pointer (some ⟨wb, 0, none⟩), .slice q.1 q.2.1 q.2.2, .int .i64 0], w') ∧
        Wl w' wb fb tb b name ((openA A fuse dead name).2.1.length : Int) ∧ (∀ y, Xw wb fb tb y → w.heap.size ≤ y ∧ y < z ∧ ¬ D' y) ∧ w.heap.size ≤ z ∧ (∀ y, D' y → y < z) ∧
        LsO 31 (fun y => z ≤ y) (ElO 5 .u8 (fun y => z ≤ y)) w' q (openA A fuse dead name).2.1) := by
  obtain ⟨fb, tb, w1, e1, m1, f1, htb, hfb⟩ := new10 (w := w)
  have f2 : Fr [] w1 (w1.alloc (.cells #[.pointer (some ⟨b, 0, none⟩), .string name, .pointer (some ⟨fb, 0, none⟩), .int .i64 0] 64)) := Fr.alloc _
  have b2 := Blk.new w1 [.pointer (some ⟨b, 0, none⟩), .string name, .pointer (some ⟨fb, 0, none⟩), .int .i64 0] 64
  change Blk (w1.alloc (.cells #[.pointer (some ⟨b, 0, none⟩), .string name, .pointer (some ⟨fb, 0, none⟩), .int .i64 0] 64)) _ _ _ at b2
  have z2 : (w1.alloc (.cells #[.pointer (some ⟨b, 0, none⟩), .string name, .pointer (some ⟨fb, 0, none⟩), .int .i64 0] 64)).heap.size = w1.heap.size + 1 := Array.size_push _
  have m2 := m1.fr f2 (by simp) (by simp)
  obtain ⟨w2, hw2⟩ : ∃ w2, w1.alloc (.cells #[.pointer (some ⟨b, 0, none⟩), .string name, .pointer (some ⟨fb, 0, none⟩), .int .i64 0] 64) = w2 := ⟨_, rfl⟩
  rw [hw2] at f2 b2 z2 m2
  have F2 : Fr [] w w2 := (Fr.mono (Fr.app f1 f2) (by have z0_ := Fr.size f1; have z1_ := Fr.size f2; intro y_ hy_ hl_; grind [blkOf]))
  have d2 := h.fr F2 (by simp)
  obtain ⟨q5, w3, e3, o3, f3, h3, hz3, hl3⟩ := read15 d2 name
  have d3 := d2.fr f3 (by simp)
  have wl2 : Wl w2 w1.heap.size fb tb b name 0 := ⟨b2, m2⟩
  have wl3 := wl2.fr f3 (by simp)
  have hl1 := m1.tbl.lt
  have hl2 := m1.blk.lt
  have hltD := h.lt
  have z1 := f1.size
  have z3 := f3.size
  have F3 : Fr [] w w3 := (Fr.mono (Fr.app F2 f3) (by have z0_ := Fr.size F2; have z1_ := Fr.size f3; intro y_ hy_ hl_; grind [blkOf]))
  have hXb : ∀ y, Xw w1.heap.size fb tb y → w.heap.size ≤ y ∧ y < w2.heap.size := by
    intro y hy; rcases hy with hy | hy | hy <;> subst hy <;> omega
  -- the error so far
  have mid : ∃ w4 D4, Dk w4 D4 b (openE A fuse dead name).2.1 (openE A fuse dead name).2.2.1 (openE A fuse dead name).2.2.2 ∧ Chg D w3 w4 D4 ∧
      (∀ r, g10_j7 (.pointer (some ⟨fb, 0, none⟩), w1) q5 (some ⟨b, 0, none⟩) name (openE A fuse dead name).1 w4 = some r → callF Try.prog 10 #[.pointer (some ⟨b, 0, none⟩), .string name] w = some r) := by
    by_cases h4 : (readA A dead name).2 = 4
    · have eo : openE A fuse dead name = appA A fuse dead name [] := by unfold openE; rw [if_pos h4]
      rw [eo]
      obtain ⟨w4, D4, e4, d4, g4⟩ := append10 (p := []) d3 name (u := (none, 0, 0)) ⟨rfl, fun h => absurd h (by decide)⟩ (by intro z hz; simp at hz) (Nat.le_refl _) (fun h => absurd h (by decide)) (by decide)
      refine ⟨w4, D4, d4, g4, fun r hr => g10_call ?_⟩
      have h44 : ((readA A dead name).2 == 4) = true := by simpa using h4
      unfold g10
      simp only [e1, hw2, e3, h44, e4, hr, Option.bind_some, asP_pointer, asB_bool, asI_int, asS_string, asSl_slice, asM_map, asTup0, asTup1, asTup2, asTup3, asTup4, asTup5, getD0, getD1, getD2, getD3, getD4, Bool.not_true, Bool.not_false, Bool.false_eq_true, Bool.true_eq_false, ↓reduceIte, decide_true, decide_false, Option.isNone_some, Option.isNone_none, Option.isSome_some, Option.isSome_none, beq_self_eq_true, bne_self_eq_false, Bool.and_true, Bool.true_and, Bool.and_false, Bool.false_and, not_true_eq_false, not_false_eq_true]
    · have eo : openE A fuse dead name = ((readA A dead name).2, A, fuse, dead) := by unfold openE; rw [if_neg h4]
      rw [eo]
      refine ⟨w3, D, d3, Chg.refl _ _, fun r hr => g10_call ?_⟩
      have h44 : ((readA A dead name).2 == 4) = false := by simpa using h4
      unfold g10
      simp only [e1, hw2, e3, h44, hr, ite_self, Option.bind_some, asP_pointer, asB_bool, asI_int, asS_string, asSl_slice, asM_map, asTup0, asTup1, asTup2, asTup3, asTup4, asTup5, getD0, getD1, getD2, getD3, getD4, Bool.not_true, Bool.not_false, Bool.false_eq_true, Bool.true_eq_false, ↓reduceIte, decide_true, decide_false, Option.isNone_some, Option.isNone_none, Option.isSome_some, Option.isSome_none, beq_self_eq_true, bne_self_eq_false, Bool.and_true, Bool.true_and, Bool.and_false, Bool.false_and, not_true_eq_false, not_false_eq_true]
  obtain ⟨w4, D4, d4, g4, hcall⟩ := mid
  obtain ⟨S4, f4, hS4⟩ := g4.fr
  have n4 := g4.new
  have up4 := g4.up
  have z4 := f4.size
  have hX4 : ∀ y, Xw w1.heap.size fb tb y → ¬ D4 y := by
    intro y hy hm
    have := hXb y hy
    rcases n4 y hm with hh | hh
    · have := hltD y hh; omega
    · omega
  have wl4 := wl3.fr f4 (fun y hy hx => by have := hXb y hx; have := hltD y (hS4 y hy); omega)
  have C4 : Chg D w w4 D4 := ⟨⟨S4, (Fr.mono (Fr.app F3 f4) (by have z0_ := Fr.size F3; have z1_ := Fr.size f4; intro y_ hy_ hl_; grind [blkOf])), hS4⟩, up4, fun y hy => by
    rcases n4 y hy with hh | hh
    · exact .inl hh
    · right; omega⟩
  by_cases hok : (openE A fuse dead name).1 = 0
  · -- the scan
    have eo : openA A fuse dead name = (0, (scan (readA A dead name).1).1, if (scan (readA A dead name).1).2.1 < (readA A dead name).1.length then (cutA (openE A fuse dead name).2.1 (openE A fuse dead name).2.2.2 name ((scan (readA A dead name).1).2.1 : Int)).2 else (openE A fuse dead name).2.1, (openE A fuse dead name).2.2.1, (openE A fuse dead name).2.2.2) := by
      unfold openA; rw [if_pos hok]
    rw [eo]
    have o4 := o3.fr f4 (by intro y hy hm; have := h3 y hy; have := hltD y (hS4 y hm); omega)
    obtain ⟨v6, w6, e6, l6, m6, f6⟩ := scan18 wl4.fm o4.slI hz3 o4.le (fun _ hm => by have := h3 _ hm; omega) (by omega)
    obtain ⟨nf, nt, nft⟩ := wl4.ne
    have b6 := wl4.blk.fr f6 (by simpa using nt)
    have wl6 : Wl w6 w1.heap.size fb tb b name 0 := ⟨b6, m6⟩
    have d6 := d4.fr f6 (by intro y hy _; simp at hy; subst hy; exact hX4 _ (.inr (.inr rfl)))
    have z6 := f6.size
    have hXf : ∀ y, Xw w1.heap.size fb tb y → w.heap.size ≤ y ∧ y < w4.heap.size := fun y hy => by have := hXb y hy; omega
    have c2 : w4.cell? ⟨w1.heap.size, 2, none⟩ = some (.pointer (some ⟨fb, 0, none⟩)) := wl4.blk.cell 2
    have h00 : ((0 : Int) != 0) = false := by decide
    have hll := l6.len
    have ol := o3.len
    simp only [List.length_map, Nat.mul_one] at ol
    have fin : ∀ (w7 : World) (A7 : List (ByteArray × FV)), Dk w7 D4 b A7 (openE A fuse dead name).2.2.1 (openE A fuse dead name).2.2.2 → Chg D4 w6 w7 D4 → Wl w7 w1.heap.size fb tb b name 0 → LsO 31 (fun y => w4.heap.size ≤ y) (ElO 5 .u8 (fun y => w4.heap.size ≤ y)) w7 v6 (scan (readA A dead name).1).1 →
        (∀ r, g10_j19 (.pointer (some ⟨fb, 0, none⟩), w1) v6 w7 = some r → g10_j7 (.pointer (some ⟨fb, 0, none⟩), w1) q5 (some ⟨b, 0, none⟩) name 0 w4 = some r) →
        ∃ w' D', Dk w' D' b A7 (openE A fuse dead name).2.2.1 (openE A fuse dead name).2.2.2 ∧ Chg D w w' D' ∧ ∃ (wb fb tb z : Nat) (q : Option Addr × Nat × Nat), callF Try.prog 10 #[.pointer (some ⟨b, 0, none⟩), .string name] w = some (.tuple #[.pointer (some ⟨wb, 0, none⟩), .slice q.1 q.2.1 q.2.2, .int .i64 0], w') ∧
          Wl w' wb fb tb b name ((scan (readA A dead name).1).1.length : Int) ∧ (∀ y, Xw wb fb tb y → w.heap.size ≤ y ∧ y < z ∧ ¬ D' y) ∧ w.heap.size ≤ z ∧ (∀ y, D' y → y < z) ∧
          LsO 31 (fun y => z ≤ y) (ElO 5 .u8 (fun y => z ≤ y)) w' q (scan (readA A dead name).1).1 := by
      intro w7 A7 d7 g7 wl7 l7 hr7
      obtain ⟨S7, f7, hS7⟩ := g7.fr
      have t3 : st1 w7 ⟨w1.heap.size, 3, none⟩ (.int .i64 (v6.2.1 : Int)) = some (w7.setCell ⟨w1.heap.size, 3, none⟩ (.int .i64 (v6.2.1 : Int))) := wl7.blk.st1 (by simp) rfl
      have f8 : Fr [w1.heap.size] w7 (w7.setCell ⟨w1.heap.size, 3, none⟩ (.int .i64 (v6.2.1 : Int))) := Fr.setCell
      have b8 := wl7.blk.set 3 (.int .i64 (v6.2.1 : Int))
      simp only [List.set_cons_succ, List.set_cons_zero] at b8
      rw [hok] at hcall
      have zz7 := f7.size
      refine ⟨_, D4, d7.fr f8 (by intro y hy _; simp at hy; subst hy; exact hX4 _ (.inl rfl)), ⟨⟨S4 ++ S7.filter (· < w.heap.size), ?_, ?_⟩, up4, C4.new⟩, w1.heap.size, fb, tb, w4.heap.size, v6, hcall _ (hr7 _ ?_), ⟨?_, wl7.fm.fr f8 (by simpa using nf.symm) (by simpa using nt.symm)⟩, fun y hy => ⟨(hXf y hy).1, (hXf y hy).2, hX4 y hy⟩, by omega, d4.lt, l7.fr (stays_o _ _ _) f8 (by intro y hy _; simp at hy; subst hy; omega)⟩
      · have FF : Fr (S4 ++ tb :: w1.heap.size :: S7) w (w7.setCell ⟨w1.heap.size, 3, none⟩ (.int .i64 (v6.2.1 : Int))) := (Fr.mono (Fr.app (Fr.app (Fr.app (Fr.app F3 f4) f6) f7) f8) (by have z0_ := Fr.size F3; have z1_ := Fr.size f4; have z2_ := Fr.size f6; have z3_ := Fr.size f7; have z4_ := Fr.size f8; intro y_ hy_ hl_; grind [blkOf]))
        refine FF.mono ?_
        intro y hy hl
        simp only [List.mem_append, List.mem_cons, List.mem_filter, decide_eq_true_eq] at hy ⊢
        rcases hy with hy | hy | hy | hy
        · exact .inl hy
        · omega
        · omega
        · exact .inr ⟨hy, hl⟩
      · intro y hy
        simp only [List.mem_append, List.mem_filter, decide_eq_true_eq] at hy
        rcases hy with hy | hy
        · exact hS4 y hy
        · rcases C4.new y (hS7 y hy.1) with hh | hh
          · exact hh
          · omega
      · unfold g10_j19
        simp only [addr_add, Nat.zero_add, t3, Option.bind_some, asP_pointer, asB_bool, asI_int, asS_string, asSl_slice, asM_map, asTup0, asTup1, asTup2, asTup3, asTup4, asTup5, getD0, getD1, getD2, getD3, getD4, Bool.not_true, Bool.not_false, Bool.false_eq_true, Bool.true_eq_false, ↓reduceIte, decide_true, decide_false, Option.isNone_some, Option.isNone_none, Option.isSome_some, Option.isSome_none, beq_self_eq_true, bne_self_eq_false, Bool.and_true, Bool.true_and, Bool.and_false, Bool.false_and, not_true_eq_false, not_false_eq_true]
      · rw [hll]; exact b8
    by_cases hlt : (scan (readA A dead name).1).2.1 < (readA A dead name).1.length
    · rw [if_pos hlt]
      obtain ⟨w7, e7, d7, g7⟩ := cut23 d6 name ((scan (readA A dead name).1).2.1 : Int)
      obtain ⟨S7, f7, hS7⟩ := g7.fr
      have hc : (((scan (readA A dead name).1).2.1 : Nat) : Int) < (q5.2.1 : Int) := by omega
      obtain ⟨w', D', r1, r2, wb', fb', tb', z', q', r3⟩ := fin w7 _ d7 g7 (wl6.fr f7 (fun y hy hx => hX4 y hx (hS7 y hy))) (l6.fr (stays_o _ _ _) f7 (by intro y hy _ hz; have := d4.lt y (hS7 y hy); omega)) (fun r hr => by
        unfold g10_j7
        simp only [h00, addr_add, Nat.zero_add, c2, e6, hc, e7, hr, Option.bind_some, asP_pointer, asB_bool, asI_int, asS_string, asSl_slice, asM_map, asTup0, asTup1, asTup2, asTup3, asTup4, asTup5, getD0, getD1, getD2, getD3, getD4, Bool.not_true, Bool.not_false, Bool.false_eq_true, Bool.true_eq_false, ↓reduceIte, decide_true, decide_false, Option.isNone_some, Option.isNone_none, Option.isSome_some, Option.isSome_none, beq_self_eq_true, bne_self_eq_false, Bool.and_true, Bool.true_and, Bool.and_false, Bool.false_and, not_true_eq_false, not_false_eq_true])
      exact ⟨w', D', r1, r2, .inr ⟨rfl, wb', fb', tb', z', q', r3⟩⟩
    · rw [if_neg hlt]
      have hc : ¬ (((scan (readA A dead name).1).2.1 : Nat) : Int) < (q5.2.1 : Int) := by omega
      obtain ⟨w', D', r1, r2, wb', fb', tb', z', q', r3⟩ := fin w6 _ d6 (Chg.refl _ _) wl6 l6 (fun r hr => by
        unfold g10_j7
        simp only [h00, addr_add, Nat.zero_add, c2, e6, hc, hr, Option.bind_some, asP_pointer, asB_bool, asI_int, asS_string, asSl_slice, asM_map, asTup0, asTup1, asTup2, asTup3, asTup4, asTup5, getD0, getD1, getD2, getD3, getD4, Bool.not_true, Bool.not_false, Bool.false_eq_true, Bool.true_eq_false, ↓reduceIte, decide_true, decide_false, Option.isNone_some, Option.isNone_none, Option.isSome_some, Option.isSome_none, beq_self_eq_true, bne_self_eq_false, Bool.and_true, Bool.true_and, Bool.and_false, Bool.false_and, not_true_eq_false, not_false_eq_true])
      exact ⟨w', D', r1, r2, .inr ⟨rfl, wb', fb', tb', z', q', r3⟩⟩
  · have eo : openA A fuse dead name = ((openE A fuse dead name).1, [], (openE A fuse dead name).2.1, (openE A fuse dead name).2.2.1, (openE A fuse dead name).2.2.2) := by
      unfold openA; rw [if_neg hok]
    rw [eo]
    refine ⟨w4, D4, d4, C4, .inl ⟨hok, hcall _ ?_⟩⟩
    have hne : ((openE A fuse dead name).1 != 0) = true := by simpa using hok
    unfold g10_j7
    simp only [hne, Option.bind_some, asP_pointer, asB_bool, asI_int, asS_string, asSl_slice, asM_map, asTup0, asTup1, asTup2, asTup3, asTup4, asTup5, getD0, getD1, getD2, getD3, getD4, Bool.not_true, Bool.not_false, Bool.false_eq_true, Bool.true_eq_false, ↓reduceIte, decide_true, decide_false, Option.isNone_some, Option.isNone_none, Option.isSome_some, Option.isSome_none, beq_self_eq_true, bne_self_eq_false, Bool.and_true, Bool.true_and, Bool.and_false, Bool.false_and, not_true_eq_false, not_false_eq_true]
end
end Go.Proofs.Ytnflklkjjjlpaaa
