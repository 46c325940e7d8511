/-
  TxnO: lemmas on what Go functions of this seat come to (for whatever arguments, as each says). No condition but those that stand in each lemma.
-/
import Derived.Test.YtlcojbodcbjkaaaTxnM
namespace Go.Proofs.Ytlcojbodcbjkaaa
open Go Go.Ev
set_option maxRecDepth 100000
set_option linter.unusedVariables false
set_option linter.unusedSimpArgs false

theorem tvOf_apA (A : List (Int × TV)) (r : RV) (n : Int) : tvOf (apA A r) n = if n = r.tx then stepT r (tvOf A n) else tvOf A n := by
  unfold tvOf apA
  rw [kget_ups]
  by_cases h : n = r.tx
  · rw [if_pos h, if_pos h, h]; rfl
  · rw [if_neg h, if_neg h]

def lifeS (t : TV) (o : OV) (next : Int) : TV := if (lifeP t o next).2 then stepT (lifeP t o next).1 t else t

structure LI (t : TV) (next m : Int) : Prop where
  st : 0 ≤ t.st ∧ t.st ≤ 4
  zero : t.st = 0 → t = tv0
  ep : t.ep % 2 = 0 ∧ 0 ≤ t.ep ∧ t.ep ≤ 1000
  op : (t.st = 2 ∨ t.st = 3) ↔ t.parts ≠ []
  ep2 : t.st = 2 → t.ep ≤ 998
  prep : t.st = 3 → t.last = t.ep ∧ t.lpid = t.pid ∧ t.ep ≤ 998
  inc : 0 ≤ t.inc ∧ t.inc ≤ m
  pid : 0 ≤ t.pid ∧ t.pid < next
  lpid : 0 ≤ t.lpid ∧ t.lpid < next
  last : t.st ≠ 3 → t.lpid = t.pid → t.last < t.ep
  parts : ∀ p ∈ t.parts, 0 ≤ p ∧ p < 6
  nodup : t.parts.Nodup

structure LR (t t' : TV) : Prop where
  same : t'.pid = t.pid → t.ep ≤ t'.ep
  new : t'.pid ≠ t.pid → t'.ep = 0
  inc : t.inc ≤ t'.inc

theorem LI.len {t : TV} {n m : Int} (h : LI t n m) : t.parts.length ≤ 6 := by
  have h1 : t.parts.length ≤ ([0, 1, 2, 3, 4, 5] : List Int).length := List.Nodup.length_le_of_subset h.nodup (fun p hp => by
    have := h.parts p hp
    simp; omega)
  simpa using h1

theorem LI.mono {t : TV} {n m n' m' : Int} (h : LI t n m) (hn : n ≤ n') (hm : m ≤ m') : LI t n' m' :=
  ⟨h.st, h.zero, h.ep, h.op, h.ep2, h.prep, ⟨h.inc.1, by have := h.inc.2; omega⟩, ⟨h.pid.1, by have := h.pid.2; omega⟩, ⟨h.lpid.1, by have := h.lpid.2; omega⟩, h.last, h.parts, h.nodup⟩
theorem LR.refl (t : TV) : LR t t := ⟨fun _ => Int.le_refl _, fun h => absurd rfl h, Int.le_refl _⟩

theorem LI.zero_ : LI tv0 1 0 := ⟨by simp [tv0], fun _ => rfl, by simp [tv0], by simp [tv0], by simp [tv0], by simp [tv0], by simp [tv0], by simp [tv0], by simp [tv0], by simp [tv0], by simp [tv0], by simp [tv0]⟩

theorem prep_step {t : TV} {n m : Int} (h : LI t n m) (h2 : t.st = 2) (tx inc pid ep : Int) (c : Bool) : LI (stepT ⟨3, tx, inc, pid, ep, [], c⟩ t) n m ∧ LR t (stepT ⟨3, tx, inc, pid, ep, [], c⟩ t) := by
  have e : stepT ⟨3, tx, inc, pid, ep, [], c⟩ t = { t with st := 3, last := t.ep, lpid := t.pid, com := c } := by simp [stepT]
  rw [e]
  refine ⟨⟨by simp, by simp, h.ep, ?_, by simp, fun _ => ⟨rfl, rfl, h.ep2 h2⟩, h.inc, h.pid, h.pid, by simp, h.parts, h.nodup⟩, ⟨fun _ => Int.le_refl _, fun hh => absurd rfl hh, Int.le_refl _⟩⟩
  have := h.op
  simp only [h2] at this
  simpa using this

theorem init_step {t : TV} {n m inc : Int} (h : LI t n m) (hn : 1 ≤ n) (hi : t.inc ≤ inc ∧ inc ≤ m + 1) (hok : (initP t 0 inc n).2.1 = true) :
    LI (stepT (initP t 0 inc n).1 t) (n + 1) (m + 1) ∧ LR t (stepT (initP t 0 inc n).1 t) := by
  have hep := h.ep
  have hw : IntKind.i64.wrap (t.ep + 2) = t.ep + 2 := wrap_i64 (by omega) (by omega)
  have hi0 := h.inc
  have hp0 := h.pid
  have hl0 := h.lpid
  by_cases h2 : t.st = 2
  · have e : initP t 0 inc n = (⟨3, 0, 0, 0, 0, [], false⟩, true, 16) := by
      unfold initP at hok ⊢
      by_cases h0 : inc = t.inc
      · exfalso
        simp [h0, h2] at hok
      · rw [if_neg (by omega), if_neg (by omega), if_neg (by omega), if_neg (by omega), if_pos h2]
    rw [e]
    have := prep_step h h2 0 0 0 0 false
    exact ⟨this.1.mono (by omega) (by omega), this.2⟩
  · by_cases h3 : t.st = 3
    · exfalso
      unfold initP at hok
      rw [if_neg (by omega)] at hok
      by_cases g : t.st ≠ 0 ∧ inc < t.inc
      · rw [if_pos g] at hok; simp at hok
      · rw [if_neg g, if_pos h3] at hok; simp at hok
    · have hparts : t.parts = [] := by
        have := h.op
        by_cases hp : t.parts = []
        · exact hp
        · have := this.mpr hp; omega
      have key : ∀ (p e : Int), (e % 2 = 0 ∧ 0 ≤ e ∧ e ≤ 998) → (0 ≤ p ∧ p < n + 1) → (t.lpid = p → t.last < e) → (p = t.pid → t.ep ≤ e) → (p ≠ t.pid → e = 0) →
          LI (stepT ⟨1, 0, inc, p, e, [], false⟩ t) (n + 1) (m + 1) ∧ LR t (stepT ⟨1, 0, inc, p, e, [], false⟩ t) := by
        intro p e h1 h2 h3 h4 h5
        have es : stepT ⟨1, 0, inc, p, e, [], false⟩ t = { t with st := 1, inc := inc, pid := p, ep := e, parts := [] } := by simp [stepT]
        rw [es]
        exact ⟨⟨by simp, by simp, ⟨h1.1, h1.2.1, by show e ≤ 1000; omega⟩, by simp, by simp, by simp, ⟨by show 0 ≤ inc; omega, by show inc ≤ m + 1; omega⟩, h2, ⟨hl0.1, by show t.lpid < n + 1; omega⟩, fun _ => h3, by simp, by simp⟩, ⟨h4, h5, hi.1⟩⟩
      unfold initP at hok ⊢
      rw [if_neg (by omega)] at hok ⊢
      by_cases g1 : t.st ≠ 0 ∧ inc < t.inc
      · rw [if_pos g1] at hok; simp at hok
      rw [if_neg g1, if_neg h3] at hok ⊢
      by_cases g2 : t.st ≠ 0 ∧ inc = t.inc
      · rw [if_pos g2] at hok; simp at hok
      rw [if_neg g2, if_neg h2] at hok ⊢
      by_cases g3 : t.st = 0 ∨ IntKind.i64.wrap (t.ep + 2) ≥ 999
      · rw [if_pos g3, if_neg (by omega)]
        refine key n 0 ⟨by omega, by omega, by omega⟩ ⟨by omega, by omega⟩ (by omega) (by omega) (fun _ => rfl)
      · rw [if_neg g3, hw]
        rw [hw] at g3
        have hlast := h.last h3
        exact key t.pid (t.ep + 2) ⟨by omega, by omega, by omega⟩ ⟨by omega, by omega⟩ (fun hh => by have := hlast hh; omega) (by omega) (fun hh => absurd rfl hh)

theorem add_step {t : TV} {n m p : Int} (h : LI t n m) (hok : (addP t 0 t.pid t.ep p).2.1 = true) : LI (stepT (addP t 0 t.pid t.ep p).1 t) n m ∧ LR t (stepT (addP t 0 t.pid t.ep p).1 t) := by
  unfold addP at hok ⊢
  rw [if_neg (by omega)] at hok ⊢
  split at hok
  · simp at hok
  · rename_i g1
    rw [if_neg g1]
    split at hok
    · simp at hok
    · rename_i g2
      rw [if_neg g2]
      split at hok
      · simp at hok
      · rename_i g3
        rw [if_neg g3]
        split at hok
        · simp at hok
        · rename_i g4
          rw [if_neg g4]
          split at hok
          · simp at hok
          · rename_i g5
            rw [if_neg g5]
            have es : stepT ⟨2, 0, 0, 0, 0, [p], false⟩ t = { t with st := 2, parts := isort (t.parts ++ [p]) } := by simp [stepT, addAll, g5]
            have hpm := isort_perm (t.parts ++ [p])
            have hep := h.ep
            simp only
            rw [es]
            refine ⟨⟨by simp, by simp, h.ep, ?_, fun _ => by show t.ep ≤ 998; omega, by simp, h.inc, h.pid, h.lpid, fun _ hh => h.last g3 hh, fun x hx => ?_, ?_⟩, ⟨fun _ => Int.le_refl _, fun hh => absurd rfl hh, Int.le_refl _⟩⟩
            · constructor
              · intro _ hh
                have := hpm.length_eq
                simp only at hh
                rw [hh] at this
                simp at this
              · intro _; exact .inl rfl
            · have := hpm.mem_iff.mp hx
              simp at this
              rcases this with hh | rfl
              · exact h.parts x hh
              · omega
            · show (isort (t.parts ++ [p])).Nodup
              rw [hpm.nodup_iff, List.nodup_append]
              exact ⟨h.nodup, by simp, fun a ha b hb => by simp at hb; subst hb; intro e; subst e; exact g5 ha⟩

theorem end_step {t : TV} {n m : Int} {c : Bool} (h : LI t n m) (hok : (endP t 0 t.pid t.ep c).2.1 = true) : t.st = 2 ∧ endP t 0 t.pid t.ep c = (⟨3, 0, 0, 0, 0, [], c⟩, true, 0) := by
  unfold endP at hok ⊢
  rw [if_neg (by omega)] at hok ⊢
  split at hok
  · simp at hok
  · rename_i g1
    rw [if_neg g1]
    split at hok
    · simp at hok
    · rename_i g2
      rw [if_neg g2]
      split at hok
      · simp at hok
      · rename_i g3
        rw [if_neg g3]
        split at hok
        · simp at hok
        · rename_i g4
          rw [if_neg g4]
          rw [if_neg (show ¬ t.ep ≠ t.ep from fun h => h rfl)] at hok ⊢
          split at hok
          · simp at hok
          · rename_i g5
            rw [if_neg g5]
            exact ⟨by omega, rfl⟩

theorem done_step {t : TV} {n m : Int} (h : LI t n m) (h3 : t.st = 3) : LI (stepT ⟨4, 0, 0, 0, 0, [], false⟩ t) n m ∧ LR t (stepT ⟨4, 0, 0, 0, 0, [], false⟩ t) ∧ stepT ⟨4, 0, 0, 0, 0, [], false⟩ t = { t with st := 4, ep := t.ep + 2, parts := [] } := by
  obtain ⟨p1, p2, p3⟩ := h.prep h3
  have hep := h.ep
  have hw : IntKind.i64.wrap (t.last + 2) = t.ep + 2 := by rw [p1]; exact wrap_i64 (by omega) (by omega)
  have es : stepT ⟨4, 0, 0, 0, 0, [], false⟩ t = { t with st := 4, ep := t.ep + 2, parts := [] } := by simp [stepT, hw]
  rw [es]
  exact ⟨⟨by simp, by simp, ⟨by show (t.ep + 2) % 2 = 0; omega, by show 0 ≤ t.ep + 2; omega, by show t.ep + 2 ≤ 1000; omega⟩, by simp, by simp, by simp, h.inc, h.pid, h.lpid, fun _ _ => by show t.last < t.ep + 2; omega, by simp, by simp⟩, ⟨fun _ => by show t.ep ≤ t.ep + 2; omega, fun hh => absurd rfl hh, Int.le_refl _⟩, rfl⟩

theorem tm2 (x : Int) : 0 ≤ Int.tmod (IntKind.i64.wrap (Int.tmod x 2 + 2)) 2 ∧ Int.tmod (IntKind.i64.wrap (Int.tmod x 2 + 2)) 2 ≤ 1 := by
  have h1 : -2 < Int.tmod x 2 := by have := Int.lt_tmod_of_pos x (show (0 : Int) < 2 by omega); omega
  have h2 : Int.tmod x 2 < 2 := Int.tmod_lt_of_pos x (by omega)
  rw [wrap_i64 (by omega) (by omega)]
  have h3 := Int.tmod_nonneg 2 (a := Int.tmod x 2 + 2) (by omega)
  have h4 : Int.tmod (Int.tmod x 2 + 2) 2 < 2 := Int.tmod_lt_of_pos _ (by omega)
  omega

theorem life_step {t : TV} {n m : Int} (h : LI t n m) (hn : 1 ≤ n) (hm : m < 9223372036854775807) (o : OV) :
    LI (lifeS t o n) (if (lifeP t o n).2 then n + 1 else n) (m + 1) ∧ LR t (lifeS t o n) := by
  have hinc := h.inc
  unfold lifeS
  by_cases hok : ¬ (lifeP t o n).2 = true
  · rw [if_neg hok, if_neg hok]; exact ⟨h.mono (by omega) (by omega), LR.refl _⟩
  have hok := Decidable.not_not.mp hok
  rw [if_pos hok, if_pos hok]
  unfold lifeP at hok ⊢
  by_cases h0 : o.k = 0
  · rw [if_pos h0] at hok ⊢
    have := tm2 o.inc
    have hw : IntKind.i64.wrap (t.inc + Int.tmod (IntKind.i64.wrap (Int.tmod o.inc 2 + 2)) 2) = t.inc + Int.tmod (IntKind.i64.wrap (Int.tmod o.inc 2 + 2)) 2 := wrap_i64 (by omega) (by omega)
    rw [hw] at hok ⊢
    exact init_step h hn (by omega) hok
  · rw [if_neg h0] at hok ⊢
    by_cases h1 : o.k = 1
    · rw [if_pos h1] at hok ⊢
      have := add_step h hok
      exact ⟨this.1.mono (by omega) (by omega), this.2⟩
    · rw [if_neg h1] at hok ⊢
      by_cases h2 : o.k = 2
      · rw [if_pos h2] at hok ⊢
        obtain ⟨s2, e⟩ := end_step h hok
        rw [e]
        have := prep_step h s2 0 0 0 0 o.com
        exact ⟨this.1.mono (by omega) (by omega), this.2⟩
      · rw [if_neg h2] at hok ⊢
        have h3 : t.st = 3 := by simpa using hok
        have := done_step h h3
        exact ⟨this.1.mono (by omega) (by omega), this.2.1⟩
end Go.Proofs.Ytlcojbodcbjkaaa
