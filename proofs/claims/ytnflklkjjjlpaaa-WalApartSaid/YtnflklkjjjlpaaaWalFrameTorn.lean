/-
  WalFrameTorn: lemmas on what Go functions of this seat come to (for whatever arguments, as each says). No condition but those that stand in each lemma.
-/
import Derived.Test.YtnflklkjjjlpaaaWalFrameN
namespace Go.Proofs.Ytnflklkjjjlpaaa
open Go Go.Ev Go.Crc
set_option maxRecDepth 100000
set_option linter.unusedVariables false
set_option linter.unusedSimpArgs false

/-- a beginning of a frame that isn't whole -/
theorem scan_part {p rest : List Int} {m : Nat} (hp : p.length ≤ 4096) (hm : m < 8 + p.length) : scan ((enc p ++ rest).take m) = ([], 0, if m = 0 then 0 else 6) := by
  by_cases h0 : m = 0
  · subst h0; rw [List.take_zero, scan_nil rfl]; rfl
  · rw [if_neg h0]
    have hl : ((enc p ++ rest).take m).length = m := by
      rw [List.length_take, List.length_append, enc_length]; omega
    have hd : dec ((enc p ++ rest).take m) = ([], 0, 6) := by
      unfold dec
      by_cases h8 : m < 8
      · rw [if_pos (by omega)]
      · rw [if_neg (by omega)]
        have e : enc p ++ rest = le4 (p.length : Int) ++ (le4 (more 0 p) ++ (p ++ rest)) := by simp [enc]
        have g : ∀ i, i < 4 → ((enc p ++ rest).take m).getD i 0 = (le4 (p.length : Int)).getD i 0 := by
          intro i hi
          rw [getD_take (by omega), e]
          match i, hi with | 0, _ | 1, _ | 2, _ | 3, _ => rfl
        have h1 : un4 (((enc p ++ rest).take m).getD 0 0) (((enc p ++ rest).take m).getD 1 0) (((enc p ++ rest).take m).getD 2 0) (((enc p ++ rest).take m).getD 3 0) = (p.length : Int) := by
          rw [g 0 (by omega), g 1 (by omega), g 2 (by omega), g 3 (by omega)]
          exact un4_le4 (by omega)
        simp only [h1]
        rw [if_neg (by omega), if_pos (by omega)]
    have h0' : ¬ ((enc p ++ rest).take m).length = 0 := by omega
    rw [scan_bad h0' (by rw [hd]; decide), hd]

theorem scan_torn {ps : List (List Int)} {j k : Nat} (hs : ∀ p ∈ ps, p.length ≤ 4096) (hj : (encs (ps.take j)).length ≤ k) (hjl : j < ps.length) (hn : k < (encs (ps.take j)).length + (8 + ps[j].length)) :
    scan ((encs ps).take k) = (ps.take j, (encs (ps.take j)).length, if (encs (ps.take j)).length = k then 0 else 6) := by
  have e1 : encs ps = encs (ps.take j) ++ (enc ps[j] ++ encs (ps.drop (j + 1))) := by
    rw [← encs_cons, ← List.drop_eq_getElem_cons hjl, ← encs_append, List.take_append_drop]
  have e2 : (encs ps).take k = encs (ps.take j) ++ (enc ps[j] ++ encs (ps.drop (j + 1))).take (k - (encs (ps.take j)).length) := by
    rw [e1, List.take_append, List.take_of_length_le hj]
  rw [e2, scan_encs (fun p hp => hs p (List.mem_of_mem_take hp)), scan_part (hs _ (List.getElem_mem hjl)) (by omega)]
  simp only [List.append_nil, Nat.add_zero]
  by_cases h : (encs (ps.take j)).length = k
  · rw [if_pos (by omega), if_pos h]
  · rw [if_neg (by omega), if_neg h]

theorem encs_take_succ {ps : List (List Int)} {k : Nat} (hk : k < ps.length) : (encs (ps.take (k + 1))).length = (encs (ps.take k)).length + (8 + ps[k].length) := by
  rw [List.take_succ_eq_append_getElem hk, encs_append, encs_one, List.length_append, enc_length]

end Go.Proofs.Ytnflklkjjjlpaaa
