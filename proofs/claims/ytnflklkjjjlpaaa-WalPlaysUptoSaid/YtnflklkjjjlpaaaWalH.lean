/-
  WalH: lemmas on what Go functions of this seat come to (for whatever arguments, as each says). No condition but those that stand in each lemma.
-/
import Derived.Test.YtnflklkjjjlpaaaWalG
namespace Go.Proofs.Ytnflklkjjjlpaaa
open Go Go.Ev Go.Crc
set_option maxRecDepth 100000
set_option linter.unusedVariables false
set_option linter.unusedSimpArgs false

/-- a beginning of a frame -/
def Part (rest : List Int) : Prop := ∃ p z m, p.length ≤ 4096 ∧ m < 8 + p.length ∧ rest = (enc p ++ z).take m
theorem Part.nil : Part [] := ⟨[], [], 0, by simp, by simp, by simp⟩

/-- what holds of the disk's files between two ops -/
structure PLaw (A : List (ByteArray × FV)) (dead : Bool) (all : List (List Int)) (least count : Nat) : Prop where
  ex : ∃ rest s, kget A nmW = some (encs all ++ rest, s) ∧ Part rest ∧ (dead = false → rest = []) ∧ (encs (all.take least)).length ≤ s ∧ s ≤ (encs all ++ rest).length
  sm : ∀ p ∈ all, p.length ≤ 4096
  zs : ∀ p ∈ all, Zs p
  len : (encs all).length ≤ 4194304
  lst : least ≤ all.length
  cnt : dead = false → count = all.length
  cb : count ≤ 4194304

theorem len8 (l : List (List Int)) : 8 * l.length ≤ (encs l).length := by
  induction l with
  | nil => simp
  | cons a l ih => rw [encs_cons, List.length_append, enc_length, List.length_cons]; omega

theorem lenO_le (A : List (ByteArray × FV)) (n : ByteArray) : lenO (kget A n) ≤ used A := by
  have := used_kdel A n; omega

section
variable {A : List (ByteArray × FV)} {fuse : Int} {dead : Bool} {all : List (List Int)} {least count : Nat}

theorem PLaw.alive (h : PLaw A false all least count) : ∃ s, kget A nmW = some (encs all, s) ∧ (encs (all.take least)).length ≤ s ∧ s ≤ (encs all).length := by
  obtain ⟨rest, s, h1, h2, h3, h4, h5⟩ := h.ex
  have := h3 rfl
  subst this
  rw [List.append_nil] at h1 h5
  exact ⟨s, h1, h4, h5⟩

theorem PLaw.app (h : PLaw A dead all least count) (hu : used A ≤ 4194304) {p : List Int} (hz : Zs p) :
    let r := wappA A fuse dead nmW p
    (r.1 = 2 ∧ p.length > 4096 ∧ r.2.2.2 = dead ∧ PLaw r.2.1 r.2.2.2 all least count) ∨
    (p.length ≤ 4096 ∧ (r.1 = 0 ∧ r.2.2.2 = false ∧ all.length < 600000 ∧ PLaw r.2.1 false (all ++ [p]) least (count + 1) ∨
      r.1 = 3 ∧ PLaw r.2.1 r.2.2.2 all least count ∨ r.1 = 9 ∧ r.2.2.2 = true ∧ PLaw r.2.1 true all least count)) := by
  intro r
  have hr : r = wappA A fuse dead nmW p := rfl
  unfold wappA at hr
  by_cases hl : p.length > 4096
  · rw [if_pos hl] at hr; rw [hr]; exact .inl ⟨rfl, hl, rfl, h⟩
  · rw [if_neg hl] at hr
    refine .inr ⟨by omega, ?_⟩
    cases dead with
    | true =>
      have : appA A fuse true nmW (enc p) = (9, A, fuse, true) := by unfold appA; rw [if_pos rfl]
      rw [this] at hr; rw [hr]; exact .inr (.inr ⟨rfl, rfl, h⟩)
    | false =>
      obtain ⟨s, h1, h2, h3⟩ := h.alive
      have hel := enc_length p
      rcases app_cases (A := A) (fuse := fuse) (p := enc p) okW with ⟨k1, k2⟩ | ⟨k1, k2⟩
      · rw [k1] at hr; rw [hr]; exact .inr (.inl ⟨rfl, h⟩)
      · rw [k1] at hr
        have hlo := lenO_le A nmW
        rw [h1] at hlo
        replace hlo : (encs all).length ≤ used A := hlo
        by_cases ht : tookN fuse (enc p).length < (enc p).length
        · rw [if_pos ht] at hr
          rw [hr]
          refine .inr (.inr ⟨rfl, by simp [ht], ?_⟩)
          refine ⟨⟨(enc p).take (tookN fuse (enc p).length), s, ?_, ⟨p, [], tookN fuse (enc p).length, by omega, by omega, by simp⟩, fun hh => absurd hh (by decide), h2, by rw [List.length_append]; omega⟩, h.sm, h.zs, h.len, h.lst, fun hh => absurd hh (by decide), h.cb⟩
          simp only
          rw [kget_ups, if_pos rfl, h1]; rfl
        · rw [if_neg ht] at hr
          have htk : (enc p).take (tookN fuse (enc p).length) = enc p := List.take_of_length_le (by omega)
          rw [htk, decide_eq_false ht] at hr
          rw [hr]
          have hsn : encs (all ++ [p]) = encs all ++ enc p := by rw [encs_append, encs_one]
          have h8 : 8 * all.length ≤ (encs all).length := by
            have : ∀ l : List (List Int), 8 * l.length ≤ (encs l).length := by
              intro l
              induction l with
              | nil => simp
              | cons a l ih => rw [encs_cons, List.length_append, enc_length, List.length_cons]; omega
            exact this all
          have hlen := h.len
          have hlst := h.lst
          have hcnt := h.cnt rfl
          refine .inl ⟨rfl, rfl, by omega, ⟨⟨[], s, ?_, Part.nil, fun _ => rfl, ?_, ?_⟩, ?_, ?_, ?_, ?_, fun _ => ?_, by omega⟩⟩
          · simp only
            rw [kget_ups, if_pos rfl, h1, List.append_nil, hsn]; rfl
          · rw [List.take_append_of_le_length hlst]; exact h2
          · rw [List.append_nil, hsn, List.length_append]; omega
          · intro q hq
            simp only [List.mem_append, List.mem_singleton] at hq
            rcases hq with hq | hq
            · exact h.sm q hq
            · subst hq; omega
          · intro q hq
            simp only [List.mem_append, List.mem_singleton] at hq
            rcases hq with hq | hq
            · exact h.zs q hq
            · subst hq; exact hz
          · rw [hsn, List.length_append]
            have : ¬ (enc p).length > 4194304 - used A := fun hh => k2 (.inl hh)
            omega
          · simp; omega
          · simp; omega

theorem PLaw.sync (h : PLaw A dead all least count) :
    dead = true ∧ syncA A dead nmW = (9, A) ∨ dead = false ∧ (syncA A dead nmW).1 = 0 ∧ PLaw (syncA A dead nmW).2 false all all.length count := by
  cases dead with
  | true => left; unfold syncA; simp
  | false =>
    right
    obtain ⟨s, h1, h2, h3⟩ := h.alive
    have e : syncA A false nmW = (0, kups A nmW synF) := by unfold syncA; rw [if_neg (by decide), h1]
    rw [e]
    refine ⟨rfl, rfl, ⟨[], (encs all).length, ?_, Part.nil, fun _ => rfl, by simp, by simp⟩, h.sm, h.zs, h.len, Nat.le_refl _, h.cnt, h.cb⟩
    rw [kget_ups, if_pos rfl, h1]; simp [synF]

theorem PLaw.rew (h : PLaw A dead all least count) (hone : kone A) {ps : List (List Int)} (hz : ∀ p ∈ ps, Zs p) (hu : used (rewA A fuse dead nmW ps).2.1 ≤ 4194304) :
    let r := rewA A fuse dead nmW ps
    (r.1 = 0 ∧ dead = false ∧ r.2.2.2 = false ∧ PLaw r.2.1 r.2.2.2 ps ps.length ps.length) ∨
    (r.1 = 9 ∧ longP ps = false ∧ r.2.2.2 = true ∧ PLaw r.2.1 r.2.2.2 all least count) ∨
    (r.1 ≠ 0 ∧ r.1 ≠ 9 ∧ decide (r.1 = 2) = longP ps ∧ PLaw r.2.1 r.2.2.2 all least count) := by
  intro r
  have hr : r = rewA A fuse dead nmW ps := rfl
  cases hlong : longP ps with
  | true =>
    unfold rewA at hr
    rw [if_pos hlong] at hr
    rw [hr]; exact .inr (.inr ⟨by simp, by simp, by simp, h⟩)
  | false =>
    cases dead with
    | true =>
      have hrm : removeA A true (nextN nmW) = (9, A) := by unfold removeA; simp
      unfold rewA at hr
      rw [if_neg (by rw [hlong]; decide), hrm, if_pos (by simp)] at hr
      rw [hr]; exact .inr (.inl ⟨rfl, rfl, rfl, h⟩)
    | false =>
      obtain ⟨s, h1, h2, h3⟩ := h.alive
      have hne : nmW ≠ nextN nmW := by decide
      have hrc := rew_cases (fuse := fuse) (ps := ps) hone (n := nmW) (by decide) (by decide) hlong
      rw [← hr] at hrc
      rcases hrc with ⟨k1, k2, k3, k4, k5, k6⟩ | ⟨k1, k2, k3, k4⟩ | ⟨k1, k2, k3, k4, k5, k6, k7⟩
      · refine .inr (.inr ⟨by rw [k1]; decide, by rw [k1]; decide, by rw [k1]; decide, ?_⟩)
        rw [k2]
        exact ⟨⟨[], s, by rw [k4 _ hne, h1, List.append_nil], Part.nil, fun _ => rfl, h2, by simpa using h3⟩, h.sm, h.zs, h.len, h.lst, h.cnt, h.cb⟩
      · refine .inr (.inl ⟨k1, rfl, k2, ?_⟩)
        rw [k2]
        exact ⟨⟨[], s, by rw [k4 _ hne, h1, List.append_nil], Part.nil, fun _ => rfl, h2, by simpa using h3⟩, h.sm, h.zs, h.len, h.lst, fun hh => absurd hh (by decide), h.cb⟩
      · refine .inl ⟨k1, rfl, k2, ?_⟩
        rw [k2]
        have hlen : (encs ps).length ≤ 4194304 := by
          have := lenO_le r.2.1 nmW
          rw [k5] at this
          exact Nat.le_trans this hu
        exact ⟨⟨[], (encs ps).length, by rw [k5, List.append_nil], Part.nil, fun _ => rfl, by simp, by simp⟩, longP_false hlong, hz, hlen, Nat.le_refl _, fun _ => rfl, by have := len8 ps; omega⟩

theorem PLaw.open_ (h : PLaw A dead all least count) (keep : Int) :
    ∃ j, j ≤ all.length ∧ least ≤ j ∧ (openA (crashA keep A) (-1) false nmW).1 = 0 ∧ (openA (crashA keep A) (-1) false nmW).2.1 = all.take j ∧ (openA (crashA keep A) (-1) false nmW).2.2.2 = (-1, false) ∧
      PLaw (openA (crashA keep A) (-1) false nmW).2.2.1 false (all.take j) j j := by
  obtain ⟨rest, s, h1, h2, h3, h4, h5⟩ := h.ex
  have hl := leftN_le keep (v := (encs all ++ rest, s)) h5
  obtain ⟨L, hL⟩ : ∃ L, leftN keep (encs all ++ rest, s) = L := ⟨_, rfl⟩
  rw [hL] at hl
  simp only at hl
  have hg : kget (crashA keep A) nmW = some ((encs all ++ rest).take L, L) := by rw [kget_crash, h1]; simp [crashV, hL]
  obtain ⟨j, j1, j2, j3, j4⟩ := scan_prefix h.sm rest h2 L
  have hle := scan_le ((encs all ++ rest).take L)
  have hlt : ((encs all ++ rest).take L).length = L := by rw [List.length_take]; omega
  have ht : (encs all ++ rest).take (encs (all.take j)).length = encs (all.take j) := by
    have : encs all = encs (all.take j) ++ encs (all.drop j) := by rw [← encs_append, List.take_append_drop]
    rw [this, List.append_assoc, List.take_left]
  rw [j3, hlt] at hle
  have htt : ((encs all ++ rest).take L).take (encs (all.take j)).length = encs (all.take j) := by rw [List.take_take, Nat.min_eq_left hle, ht]
  have ho := open_has (fuse := -1) hg
  rw [j2, j3, hlt] at ho
  have hjl : (all.take j).length = j := by rw [List.length_take]; omega
  have hel := encs_take_le all j
  have hlen := h.len
  refine ⟨j, j1, j4 least h.lst (by omega), by rw [ho], by rw [ho], by rw [ho], ?_⟩
  rw [ho]
  refine ⟨⟨[], (encs (all.take j)).length, ?_, Part.nil, fun _ => rfl, by rw [List.take_of_length_le (by omega)]; exact Nat.le_refl _, by simp⟩, fun p hp => h.sm p (List.mem_of_mem_take hp), fun p hp => h.zs p (List.mem_of_mem_take hp), by omega, by omega, fun _ => hjl.symm, by have := len8 all; omega⟩
  simp only
  by_cases hc : (encs (all.take j)).length < L
  · rw [if_pos hc, kget_ups, if_pos rfl, hg]
    simp only [cutF]
    rw [htt, List.append_nil, Nat.min_eq_right hle]
  · rw [if_neg hc, hg]
    have : (encs (all.take j)).length = L := by omega
    rw [← this, ht, List.append_nil]
end
end Go.Proofs.Ytnflklkjjjlpaaa
