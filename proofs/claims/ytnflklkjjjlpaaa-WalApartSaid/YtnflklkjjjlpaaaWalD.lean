/-
  WalD: lemmas on what Go functions of this seat come to (for whatever arguments, as each says). No condition but those that stand in each lemma.
-/
import Derived.Test.YtnflklkjjjlpaaaWalC
import Derived.Test.YtnflklkjjjlpaaaWalFrameTorn
namespace Go.Proofs.Ytnflklkjjjlpaaa
open Go Go.Ev Go.Crc
set_option maxRecDepth 100000
set_option linter.unusedVariables false
set_option linter.unusedSimpArgs false

def okN (n : ByteArray) : Prop := ¬ (n.size = 0 ∨ n.size > 24)

theorem app_cases {A : List (ByteArray × FV)} {fuse : Int} {n : ByteArray} {p : List Int} (hn : okN n) :
    (appA A fuse false n p = (3, A, fuse, false) ∧ (p.length > 4194304 - used A ∨ kget A n = none ∧ A.length = 4096)) ∨
    (appA A fuse false n p = (if tookN fuse p.length < p.length then 9 else 0, kups A n (putF (p.take (tookN fuse p.length))), fuseN fuse p.length, decide (tookN fuse p.length < p.length)) ∧ ¬ (p.length > 4194304 - used A ∨ kget A n = none ∧ A.length = 4096)) := by
  unfold appA
  rw [if_neg (by decide), if_neg hn]
  by_cases h : p.length > 4194304 - used A ∨ kget A n = none ∧ A.length = 4096
  · left; rw [if_pos h]; exact ⟨rfl, h⟩
  · right; rw [if_neg h]; exact ⟨rfl, h⟩

theorem kget_all_none {K V : Type} [DecidableEq K] {A : List (K × V)} (h : ∀ m, kget A m = none) : A = [] := by
  cases A with
  | nil => rfl
  | cons e A => have := h e.1; rw [kget_cons] at this; simp at this

theorem kdel_length {K V : Type} [DecidableEq K] (A : List (K × V)) (n : K) : A.length ≤ (kdel A n).length + 1 := by
  induction A with
  | nil => simp
  | cons e A ih =>
    by_cases h : n = e.1
    · simp [kdel, h]
    · simp only [kdel, h, if_false, List.length_cons]; omega

/-- how much two files take -/
theorem used_two {A : List (ByteArray × FV)} (hone : kone A) (x y : ByteArray) (h : ∀ m, m ≠ x → m ≠ y → kget A m = none) : used A ≤ lenO (kget A x) + lenO (kget A y) ∧ A.length ≤ 2 := by
  have h1 := used_kdel A x
  have h2 := used_kdel (kdel A x) y
  have k1 := kone_del (n := x) hone
  have hg := kget_del hone x
  have hg2 := kget_del k1 y
  have h3 : kdel (kdel A x) y = [] := kget_all_none fun m => by
    rw [hg2, hg]
    by_cases hy : m = y
    · simp [hy]
    · by_cases hx : m = x
      · simp [hy, hx]
      · simp [hy, hx, h m hx hy]
  have l1 := kdel_length A x
  have l2 := kdel_length (kdel A x) y
  rw [h3] at h2 l2
  have h4 : lenO (kget (kdel A x) y) ≤ lenO (kget A y) := by
    rw [hg]
    split
    · simp [lenO]
    · exact Nat.le_refl _
  have h5 : used ([] : List (ByteArray × FV)) = 0 := rfl
  simp only [List.length_nil] at l2
  omega

theorem kget_crash (keep : Int) (A : List (ByteArray × FV)) (m : ByteArray) : kget (crashA keep A) m = (kget A m).map (crashV keep) := by
  induction A with
  | nil => rfl
  | cons e A ih =>
    have : crashA keep (e :: A) = (e.1, crashV keep e.2) :: crashA keep A := rfl
    rw [this, kget_cons, kget_cons, ih]
    split <;> simp

theorem open_has {A : List (ByteArray × FV)} {fuse : Int} {n : ByteArray} {d : List Int} {s : Nat} (h : kget A n = some (d, s)) :
    openA A fuse false n = (0, (scan d).1, if (scan d).2.1 < d.length then kups A n (cutF (scan d).2.1) else A, fuse, false) := by
  have hr : readA A false n = (d, 0) := by unfold readA; rw [if_neg (by decide), h]
  have he : openE A fuse false n = (0, A, fuse, false) := by unfold openE; rw [hr]; simp
  unfold openA
  rw [hr, he, if_pos rfl]
  simp only
  have hl := scan_le d
  have hc : (cutA A false n ((scan d).2.1 : Int)).2 = kups A n (cutF (scan d).2.1) := by
    unfold cutA
    rw [if_neg (by decide), h]
    simp only
    rw [if_neg (by omega)]
    simp
  rw [hc]

theorem open_new {A : List (ByteArray × FV)} {fuse : Int} {n : ByteArray} (h : kget A n = none) (hn : okN n) (hl : A.length < 4096) (hu : used A ≤ 4194304) :
    openA A fuse false n = (0, [], kups A n (putF []), fuse, false) := by
  have hr : readA A false n = ([], 4) := by unfold readA; rw [if_neg (by decide), h]
  have ht : tookN fuse 0 = 0 := by unfold tookN; split <;> simp
  have hf : fuseN fuse 0 = fuse := by unfold fuseN; rw [ht]; split <;> simp
  have he : openE A fuse false n = (0, kups A n (putF []), fuse, false) := by
    unfold openE
    rw [hr]
    simp only [if_true]
    rcases app_cases (A := A) (fuse := fuse) (p := []) hn with ⟨h1, h2⟩ | ⟨h1, h2⟩
    · simp only [List.length_nil] at h2; omega
    · rw [h1]
      simp only [List.length_nil, ht, hf]
      simp
  unfold openA
  rw [hr, he, if_pos rfl]
  simp only
  have hs : scan ([] : List Int) = ([], 0, 0) := scan_nil rfl
  rw [hs]
  simp

theorem nextN_size (n : ByteArray) : (nextN n).size = n.size + 1 := by
  unfold nextN
  have : (⟨#[126]⟩ : ByteArray).size = 1 := rfl
  rw [ByteArray.size_append, this]
theorem nextN_ne (n : ByteArray) : nextN n ≠ n := by
  intro e
  have := congrArg ByteArray.size e
  rw [nextN_size] at this; omega

/-- what a Rewrite comes to, while the disk works -/
theorem rew_cases {A : List (ByteArray × FV)} {fuse : Int} {n : ByteArray} {ps : List (List Int)} (hone : kone A) (h0 : n.size ≠ 0) (hn : n.size ≤ 23) (hs : longP ps = false) :
    let r := rewA A fuse false n ps
    (r.1 = 3 ∧ r.2.2.2 = false ∧ r.2.2.1 = fuse ∧ (∀ m, m ≠ nextN n → kget r.2.1 m = kget A m) ∧ kget r.2.1 (nextN n) = none ∧ ((encs ps).length > 4194304 - used (kdel A (nextN n)) ∨ (kdel A (nextN n)).length = 4096)) ∨
    (r.1 = 9 ∧ r.2.2.2 = true ∧ tookN fuse (encs ps).length < (encs ps).length ∧ ∀ m, m ≠ nextN n → kget r.2.1 m = kget A m) ∨
    (r.1 = 0 ∧ r.2.2.2 = false ∧ ¬ tookN fuse (encs ps).length < (encs ps).length ∧ r.2.2.1 = fuseN fuse (encs ps).length ∧ kget r.2.1 n = some (encs ps, (encs ps).length) ∧ (∀ m, m ≠ n → m ≠ nextN n → kget r.2.1 m = kget A m) ∧ kget r.2.1 (nextN n) = none) := by
  have hnx : okN (nextN n) := by unfold okN; rw [nextN_size]; omega
  have hnn := nextN_ne n
  have hrm : (removeA A false (nextN n)).2 = kdel A (nextN n) ∧ ((removeA A false (nextN n)).1 = 0 ∨ (removeA A false (nextN n)).1 = 4) := by
    unfold removeA
    rw [if_neg (by decide)]
    rcases kcases A (nextN n) with ⟨i, hi, k1, k2, k3, k4⟩ | ⟨k1, k2, k3, k4⟩
    · rw [k2]; exact ⟨rfl, .inl rfl⟩
    · rw [k1]; exact ⟨k4.symm, .inr rfl⟩
  obtain ⟨hr1, hr2⟩ := hrm
  have hnot : ¬ ((removeA A false (nextN n)).1 ≠ 0 ∧ (removeA A false (nextN n)).1 ≠ 4) := by
    rintro ⟨a, b⟩
    rcases hr2 with h | h
    · exact a h
    · exact b h
  have k1 := kone_del (n := nextN n) hone
  have hg := kget_del hone (nextN n)
  have hgn : kget (kdel A (nextN n)) (nextN n) = none := by rw [hg, if_pos rfl]
  intro r
  have er : r = (let q := appA (kdel A (nextN n)) fuse false (nextN n) (encs ps)
    if q.1 ≠ 0 then q
    else if (syncA q.2.1 q.2.2.2 (nextN n)).1 ≠ 0 then ((syncA q.2.1 q.2.2.2 (nextN n)).1, (syncA q.2.1 q.2.2.2 (nextN n)).2, q.2.2.1, q.2.2.2)
    else ((renameA (syncA q.2.1 q.2.2.2 (nextN n)).2 q.2.2.2 (nextN n) n).1, (renameA (syncA q.2.1 q.2.2.2 (nextN n)).2 q.2.2.2 (nextN n) n).2, q.2.2.1, q.2.2.2)) := by
    show rewA A fuse false n ps = _
    unfold rewA
    rw [if_neg (by rw [hs]; decide), if_neg hnot, hr1]
  rcases app_cases (A := kdel A (nextN n)) (fuse := fuse) (p := encs ps) hnx with ⟨h1, h2⟩ | ⟨h1, h2⟩
  · left
    rw [h1] at er
    simp only [ne_eq, Int.reduceEq, not_false_eq_true, if_true] at er
    rw [er]
    refine ⟨rfl, rfl, rfl, fun m hm => by rw [hg, if_neg hm], hgn, ?_⟩
    rcases h2 with h2 | h2
    · exact .inl h2
    · exact .inr h2.2
  · right
    by_cases hlt : tookN fuse (encs ps).length < (encs ps).length
    · left
      rw [if_pos hlt] at h1
      rw [h1] at er
      simp only [ne_eq, Int.reduceEq, not_false_eq_true, if_true] at er
      rw [er]
      refine ⟨rfl, by simp [hlt], hlt, fun m hm => ?_⟩
      simp only
      rw [kget_ups, if_neg hm, hg, if_neg hm]
    · right
      rw [if_neg hlt] at h1
      have htk : (encs ps).take (tookN fuse (encs ps).length) = encs ps := List.take_of_length_le (by omega)
      rw [htk, decide_eq_false hlt] at h1
      rw [h1] at er
      simp only [ne_eq, not_true_eq_false, if_false] at er
      have g1 : kget (kups (kdel A (nextN n)) (nextN n) (putF (encs ps))) (nextN n) = some (encs ps, 0) := by
        rw [kget_ups, if_pos rfl, hgn]; rfl
      have hsy : syncA (kups (kdel A (nextN n)) (nextN n) (putF (encs ps))) false (nextN n) = (0, kups (kups (kdel A (nextN n)) (nextN n) (putF (encs ps))) (nextN n) synF) := by
        unfold syncA; rw [if_neg (by decide), g1]
      rw [hsy] at er
      simp only [not_true_eq_false, if_false] at er
      have g2 : kget (kups (kups (kdel A (nextN n)) (nextN n) (putF (encs ps))) (nextN n) synF) (nextN n) = some (encs ps, (encs ps).length) := by
        rw [kget_ups, if_pos rfl, g1]; rfl
      have ko : kone (kups (kups (kdel A (nextN n)) (nextN n) (putF (encs ps))) (nextN n) synF) := kone_ups (kone_ups k1)
      have hre : renameA (kups (kups (kdel A (nextN n)) (nextN n) (putF (encs ps))) (nextN n) synF) false (nextN n) n = (0, kups (kdel (kups (kups (kdel A (nextN n)) (nextN n) (putF (encs ps))) (nextN n) synF) (nextN n)) n (renF (encs ps, (encs ps).length))) := by
        unfold renameA; rw [if_neg (by decide), g2]; simp only; rw [if_neg (by omega), if_neg hnn]
      rw [hre] at er
      rw [er]
      refine ⟨rfl, rfl, hlt, rfl, ?_, fun m hm hm2 => ?_, ?_⟩
      · simp only
        rw [kget_ups, if_pos rfl]; rfl
      · simp only
        rw [kget_ups, if_neg hm, kget_del ko, if_neg hm2, kget_ups, if_neg hm2, kget_ups, if_neg hm2, hg, if_neg hm2]
      · simp only
        rw [kget_ups, if_neg hnn, kget_del ko, if_pos rfl]

def nmW : ByteArray := ⟨#[119]⟩
theorem okW : okN nmW := by unfold okN; decide

/-- the first of so many bytes of frames, scanned: a beginning -/
theorem scan_prefix {ps : List (List Int)} (hs : ∀ p ∈ ps, p.length ≤ 4096) (rest : List Int) (hr : ∃ p z m, p.length ≤ 4096 ∧ m < 8 + p.length ∧ rest = (enc p ++ z).take m) (L : Nat) :
    ∃ j, j ≤ ps.length ∧ (scan ((encs ps ++ rest).take L)).1 = ps.take j ∧ (scan ((encs ps ++ rest).take L)).2.1 = (encs (ps.take j)).length ∧ ∀ i, i ≤ ps.length → (encs (ps.take i)).length ≤ L → i ≤ j := by
  by_cases hL : (encs ps).length ≤ L
  · refine ⟨ps.length, Nat.le_refl _, ?_⟩
    obtain ⟨p, z, m, hp, hm, rfl⟩ := hr
    have e : (encs ps ++ (enc p ++ z).take m).take L = encs ps ++ (enc p ++ z).take (min (L - (encs ps).length) m) := by
      rw [List.take_append, List.take_of_length_le hL, List.take_take]
    rw [e, scan_encs hs, scan_part hp (by omega), List.take_length]
    exact ⟨by simp, by simp, fun i hi _ => hi⟩
  · have e : (encs ps ++ rest).take L = (encs ps).take L := by rw [List.take_append_of_le_length (by omega)]
    rw [e]
    -- where L lies
    have : ∃ j, ∃ hj : j < ps.length, (encs (ps.take j)).length ≤ L ∧ L < (encs (ps.take j)).length + (8 + ps[j].length) := by
      have key : ∀ n, n ≤ ps.length → L < (encs (ps.take n)).length → ∃ j, ∃ hj : j < ps.length, (encs (ps.take j)).length ≤ L ∧ L < (encs (ps.take j)).length + (8 + ps[j].length) := by
        intro n
        induction n with
        | zero => intro _ h; simp [encs] at h
        | succ n ih =>
          intro hn h
          by_cases hl : L < (encs (ps.take n)).length
          · exact ih (by omega) hl
          · exact ⟨n, by omega, by omega, by rw [← encs_take_succ]; exact h⟩
      exact key ps.length (Nat.le_refl _) (by rw [List.take_length]; omega)
    obtain ⟨j, hj, h1, h2⟩ := this
    rw [scan_torn hs h1 hj h2]
    refine ⟨j, by omega, rfl, rfl, fun i hi hiL => ?_⟩
    rcases Nat.lt_or_ge j i with h | h
    · exfalso
      have m1 : (encs (ps.take (j + 1))).length ≤ (encs (ps.take i)).length := by
        have := encs_take_le (ps.take i) (j + 1)
        rw [List.take_take, Nat.min_eq_left (by omega)] at this
        exact this
      rw [encs_take_succ hj] at m1
      omega
    · exact h
end Go.Proofs.Ytnflklkjjjlpaaa
