/-
  WalE: lemmas on what Go functions of this seat come to (for whatever arguments, as each says). No condition but those that stand in each lemma.
-/
import Derived.Test.YtnflklkjjjlpaaaWalD
namespace Go.Proofs.Ytnflklkjjjlpaaa
open Go Go.Ev Go.Crc
set_option maxRecDepth 100000
set_option linter.unusedVariables false
set_option linter.unusedSimpArgs false
section
variable {w : World}

/-- an empty disk and a log -/
theorem start (w : World) : ∃ (w1 w2 : World) (D : Nat → Prop) (wb fb tb z : Nat) (q : Option Addr × Nat × Nat), callF Try.prog 9 #[] w = some (.pointer (some ⟨w.heap.size + 1, 0, none⟩), w1) ∧
    callF Try.prog 10 #[.pointer (some ⟨w.heap.size + 1, 0, none⟩), .string nmW] w1 = some (.tuple #[.pointer (some ⟨wb, 0, none⟩), .slice q.1 q.2.1 q.2.2, .int .i64 0], w2) ∧
    WS w2 D (w.heap.size + 1) [(nmW, [], 0)] (-1) false wb fb tb nmW 0 ∧ Fr [] w w2 ∧ (∀ y, D y → w.heap.size ≤ y) ∧ (∀ y, Xw wb fb tb y → w.heap.size ≤ y) ∧ q.2.1 = 0 ∧ (∀ y, D y ∨ Xw wb fb tb y → y < z) ∧ LsO 31 (fun y => z ≤ y) (ElO 5 .u8 (fun y => z ≤ y)) w2 q [] := by
  obtain ⟨w1, D1, e1, d1, f1, n1⟩ := new8 w
  obtain ⟨w2, D2, d2, c2, h2⟩ := open10 d1 nmW
  have eo : openA [] (-1) false nmW = (0, [], [(nmW, [], 0)], -1, false) := open_new rfl okW (by decide) (by decide)
  rw [eo] at d2 h2
  rcases h2 with ⟨h2, _⟩ | ⟨_, wb, fb, tb, z, q, e2, wl, hX, hz, hD, hL⟩
  · exact absurd rfl h2
  · have z1 := f1.size
    obtain ⟨S, f2, hS⟩ := c2.fr
    have n2 := c2.new
    have hD2 : ∀ y, D2 y → w.heap.size ≤ y := by
      intro y hy
      rcases n2 y hy with hh | hh
      · exact n1 y hh
      · omega
    refine ⟨w1, w2, D2, wb, fb, tb, z, q, e1, e2, ⟨d2, wl, fun y hy => (hX y hy).2.2⟩, (Fr.mono (Fr.app f1 f2) (by have z0_ := Fr.size f1; have z1_ := Fr.size f2; intro y_ hy_ hl_; grind [blkOf])), hD2, fun y hy => by have := (hX y hy).1; omega, hL.len.symm, fun y hy => by rcases hy with hy | hy; exact hD y hy; exact (hX y hy).2.1, hL⟩

theorem rest_nil : ∃ p z m, p.length ≤ 4096 ∧ m < 8 + p.length ∧ ([] : List Int) = (enc p ++ z).take m := ⟨[], [], 0, by simp, by simp, by simp⟩

theorem awake11 : ∃ w', callF Try.prog 11 #[] w = some (.bool true, w') ∧ Fr [] w w' := by
  obtain ⟨w1, w2, D, wb, fb, tb, z, q, e1, e2, s2, F2, hD, hX, hq, _, _⟩ := start w
  have hlt2 : ∀ y, D y ∨ Xw wb fb tb y → y < w2.heap.size := fun y hy => hy.elim (s2.dk.lt y) (s2.wl.lt y)
  obtain ⟨w3, e3, u3, f3, z3⟩ := conv_lit w2 [97]
  have s3 := s2.fr f3 (by simp)
  obtain ⟨w4, D4, e4, s4, i4⟩ := wapp (count := 0) s3 u3 (by unfold Zs; decide) (fun _ hm => by simp [blkOf] at hm; have := hlt2 tb (.inr (.inr (.inr rfl))); omega) (by decide)
  have a4 : wappA [(nmW, [], 0)] (-1) false nmW [97] = (0, [(nmW, enc [97], 0)], -1, false) := by
    unfold wappA
    rw [if_neg (by decide)]
    rcases app_cases (A := [(nmW, [], 0)]) (fuse := -1) (p := enc [97]) okW with ⟨h1, h2⟩ | ⟨h1, h2⟩
    · exfalso; rw [enc_length] at h2; simp [used] at h2
    · rw [h1]
      have ht : tookN (-1) (enc [97]).length = (enc [97]).length := rfl
      rw [ht]
      simp [kups, putF, fuseN]
  rw [a4] at e4 s4
  simp only [if_true] at s4
  obtain ⟨w5, e5, s5, i5⟩ := wsync s4
  have a5 : syncA [(nmW, enc [97], 0)] false nmW = (0, [(nmW, enc [97], (enc [97]).length)]) := by
    unfold syncA; rw [if_neg (by decide)]
    simp [kget_cons, kups, synF]
  rw [a5] at e5 s5
  have hlt5 : ∀ y, D4 y ∨ Xw wb fb tb y → y < w5.heap.size := fun y hy => hy.elim (s5.dk.lt y) (s5.wl.lt y)
  obtain ⟨w6, e6, u6, f6, z6⟩ := conv_lit w5 [98]
  have s6 := s5.fr f6 (by simp)
  obtain ⟨w7, D7, e7, s7, i7⟩ := wapp (count := 0 + 1) s6 u6 (by unfold Zs; decide) (fun _ hm => by simp [blkOf] at hm; have := hlt5 tb (.inr (.inr (.inr rfl))); omega) (by decide)
  have a7 : wappA [(nmW, enc [97], (enc [97]).length)] (-1) false nmW [98] = (0, [(nmW, enc [97] ++ enc [98], (enc [97]).length)], -1, false) := by
    unfold wappA
    rw [if_neg (by decide)]
    rcases app_cases (A := [(nmW, enc [97], (enc [97]).length)]) (fuse := -1) (p := enc [98]) okW with ⟨h1, h2⟩ | ⟨h1, h2⟩
    · exfalso; rw [enc_length] at h2; simp [used, enc_length] at h2
    · rw [h1]
      have ht : tookN (-1) (enc [98]).length = (enc [98]).length := rfl
      rw [ht]
      simp [kups, putF, fuseN]
  rw [a7] at e7 s7
  obtain ⟨w8, e8, d8, c8⟩ := crash14 s7.dk (keep := 3) (by decide)
  have a8 : crashA 3 [(nmW, enc [97] ++ enc [98], (enc [97]).length)] = [(nmW, (enc [97] ++ enc [98]).take 12, 12)] := by
    have hl : leftN 3 (enc [97] ++ enc [98], (enc [97]).length) = 12 := by unfold leftN; simp [enc_length]
    simp only [crashA, List.map_cons, List.map_nil, crashV, hl]
  rw [a8] at d8
  obtain ⟨w9, D9, d9, c9, h9⟩ := open10 d8 nmW
  have hsc : scan ((enc [97] ++ enc [98]).take 12) = ([[97]], 9, 6) := by
    have := scan_torn (ps := [[97], [98]]) (j := 1) (k := 12) (by decide) (by rw [show ([[97], [98]] : List (List Int)).take 1 = [[97]] from rfl, encs_one, enc_length]; decide) (by decide) (by rw [show ([[97], [98]] : List (List Int)).take 1 = [[97]] from rfl, encs_one, enc_length]; decide)
    rw [show ([[97], [98]] : List (List Int)).take 1 = [[97]] from rfl, encs_one, enc_length] at this
    rw [show encs [[97], [98]] = enc [97] ++ enc [98] by rw [encs_cons, encs_one]] at this
    rw [this]; rfl
  have a9 := open_has (A := [(nmW, (enc [97] ++ enc [98]).take 12, 12)]) (fuse := -1) (n := nmW) (d := (enc [97] ++ enc [98]).take 12) (s := 12) (by simp [kget_cons])
  rw [hsc] at a9
  rcases h9 with ⟨h9, _⟩ | ⟨_, wb', fb', tb', z', q', e9, wl', hX', hz', hD', hL⟩
  · rw [a9] at h9; exact absurd rfl h9
  · have hll : (openA [(nmW, (enc [97] ++ enc [98]).take 12, 12)] (-1) false nmW).2.1 = [[97]] := by rw [a9]
    rw [hll] at wl' hL
    have hlen := hL.len
    obtain ⟨a, q10, i10, c10, r10, _, _⟩ := hL.lst'.get (i := 0) (by decide)
    have e11 := conv_str r10 (by show Zs [97]; unfold Zs; decide)
    have e12 := count18 wl'
    have hq1 : ((q'.2.1 : Int) == 1) = true := by rw [← hlen]; rfl
    have hstr : ((ofB [97]).toList == (⟨#[97]⟩ : ByteArray).toList) = true := by
      rw [str_eq]; decide +kernel
    have h00 : ((0 : Int) != 0) = false := by decide
    have h01 : ((0 : Int) == 0) = true := by decide
    have hq0 : ((q.2.1 : Int) != 0) = false := by rw [hq]; rfl
    refine ⟨w9, g11_call ?_, ?_⟩
    · change semR Try.prog (convert 31 31 (.slice (some ⟨w2.heap.size, 0, none⟩) 1 1)) (w2.alloc (.cells #[.int .u8 97] 5)) = some (.slice (some ⟨w2.heap.size, 0, none⟩) 1 1, w3) at e3
      change semR Try.prog (convert 31 31 (.slice (some ⟨w5.heap.size, 0, none⟩) 1 1)) (w5.alloc (.cells #[.int .u8 98] 5)) = some (.slice (some ⟨w5.heap.size, 0, none⟩) 1 1, w6) at e6
      simp only [List.length_cons, List.length_nil, Nat.zero_add] at e4 e7
      have e2' : callF Try.prog 10 #[.pointer (some ⟨w.heap.size + 1, 0, none⟩), .string (⟨#[119]⟩ : ByteArray)] w1 = _ := e2
      have e9' : callF Try.prog 10 #[.pointer (some ⟨w.heap.size + 1, 0, none⟩), .string (⟨#[119]⟩ : ByteArray)] w8 = _ := e9
      have e11' : semR Try.prog (convert 31 9 (.slice q10.1 q10.2.1 q10.2.2)) w9 = some (.string (ofB [97]), w9) := e11
      have e12' : callF Try.prog 18 #[.pointer (some ⟨wb', 0, none⟩)] w9 = some (.int .i64 1, w9) := e12
      have i10'' : idxA q'.1 q'.2.1 1 (0 : Int) = some a := i10
      have h22 : ((1 : Int) == 1) = true := by decide
      unfold g11
      simp only [e1, e2', h00, hq0, e3, e4, e5, e6, e7, e8, e9', h01, hq1, i10'', c10, e11', hstr, e12', h22, Option.bind_some, asP_pointer, asB_bool, asI_int, asS_string, asSl_slice, asM_map, asTup0, asTup1, asTup2, asTup3, asTup4, asTup5, getD0, getD1, getD2, getD3, getD4, Bool.not_true, Bool.not_false, Bool.false_eq_true, Bool.true_eq_false, ↓reduceIte, decide_true, decide_false, Option.isNone_some, Option.isNone_none, Option.isSome_some, Option.isSome_none, beq_self_eq_true, bne_self_eq_false, Bool.and_true, Bool.true_and, Bool.and_false, Bool.false_and, not_true_eq_false, not_false_eq_true]
    · obtain ⟨S4, g4, q4⟩ := i4.fr
      obtain ⟨S5, g5, q5⟩ := i5.fr
      obtain ⟨S7, g7, q7⟩ := i7.fr
      obtain ⟨S8, g8, q8⟩ := c8.fr
      obtain ⟨S9, g9, q9⟩ := c9.fr
      have n4 := i4.new
      have n7 := i7.new
      have hD4 : ∀ y, D4 y → w.heap.size ≤ y := by
        intro y hy
        rcases n4 y hy with hh | hh
        · exact hD y hh
        · have := F2.size; have := f3.size; omega
      have hD7 : ∀ y, D7 y → w.heap.size ≤ y := by
        intro y hy
        rcases n7 y hy with hh | hh
        · exact hD4 y hh
        · have := F2.size; have := f3.size; have := g4.size; have := g5.size; have := f6.size; omega
      have HX := hX
      exact (Fr.mono (Fr.app (Fr.app (Fr.app (Fr.app (Fr.app (Fr.app (Fr.app F2 f3) g4) g5) f6) g7) g8) g9) (by have z0_ := Fr.size F2; have z1_ := Fr.size f3; have z2_ := Fr.size g4; have z3_ := Fr.size g5; have z4_ := Fr.size f6; have z5_ := Fr.size g7; have z6_ := Fr.size g8; have z7_ := Fr.size g9; intro y_ hy_ hl_; grind [blkOf]))
end
end Go.Proofs.Ytnflklkjjjlpaaa
