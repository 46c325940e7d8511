/-
  GateApart: lemmas on what Go functions of this seat come to (for whatever arguments, as each says). No condition but those that stand in each lemma.
-/
import Derived.Test.YtniibeofggdfoaaGateC
namespace Go.Proofs.Ytniibeofggdfoaa
open Go Go.Ev
set_option maxRecDepth 100000
set_option linter.unusedVariables false

theorem wrap_i64 {n : Int} (h0 : 0 ≤ n) (h1 : n < 9223372036854775808) : IntKind.i64.wrap n = n := wrap64_id h0 h1

section
variable {b B : Nat} {l beg : Int} {zs : List Int} {u2 : Option Addr × Nat × Nat}

theorem apart_loop (hl : l < 18446744073709551616) (hb0 : 0 ≤ beg) (hbl : beg ≤ l) (hz : ∀ z ∈ zs, 0 ≤ z ∧ z ≤ 255) (hlen : zs.length < 9223372036854775808)
    (hB : ∀ a, u2.1 = some a → 0 < u2.2.1 → a.block < B) (hbB : B ≤ b) :
    ∀ (d k : Nat) (at_ : Int) (w : World), zs.length - k = d → k ≤ zs.length → Ctr w b at_ l → SlI .u8 w u2 zs → beg ≤ at_ → at_ ≤ l →
    ∃ at' w', loopS (g3_l10_b u2 (some ⟨b, 0, none⟩) (l - beg) beg l) (false, at_, (k : Int)) w = some (.exit 0, (false, at', (zs.length : Int)), w') ∧
      Ctr w' b at' l ∧ beg ≤ at' ∧ at' ≤ l ∧ Fr [b] w w' := by
  intro d
  induction d with
  | zero =>
    intro k at_ w hd hk hc hs h1 h2
    have : k = zs.length := by omega
    subst this
    refine ⟨at_, w, loopS_out (by simp) ?_, hc, h1, h2, Fr.refl _ _⟩
    have e : u2.2.1 = zs.length := hs.1.symm
    simp [g3_l10_b, e]
  | succ d ih =>
    intro k at_ w hd hk hc hs h1 h2
    have hlt : k < zs.length := by omega
    obtain ⟨a, e1, e2⟩ := hs.get hlt
    have hzk := hz zs[k] (List.getElem_mem hlt)
    generalize zs[k] = z at e2 hzk
    obtain ⟨w1, e3, c1, f1⟩ := block13 (n := z) hc (by omega) h2 hl (by omega) (by omega)
    have hw0 : IntKind.u64.wrap z = z := wrap_u64 (by omega) (by omega)
    have hw1 : IntKind.u64.wrap (at_ - beg) = at_ - beg := wrap_u64 (by omega) (by omega)
    have hw2 : IntKind.u64.wrap (l - beg - (at_ - beg)) = l - beg - (at_ - beg) := wrap_u64 (by omega) (by omega)
    have hw3 : IntKind.i64.wrap ((k : Int) + 1) = ((k + 1 : Nat) : Int) := by rw [wrap_i64 (by omega) (by omega)]; omega
    have hltI : (k : Int) < (u2.2.1 : Int) := by have := hs.1; omega
    have hs1 : SlI .u8 w1 u2 zs := hs.fr f1 hB (by simpa using hbB)
    by_cases hok : z = 0 ∨ z > l - at_
    · have hbo : blockOf at_ l z = (0, false, at_) := by simp [blockOf, hok]
      rw [hbo] at e3 c1
      obtain ⟨at', w', e4, c2, h3, h4, f2⟩ := ih (k + 1) at_ w1 (by omega) (by omega) c1 hs1 h1 h2
      refine ⟨at', w', loopS_next (s' := (false, at_, ((k + 1 : Nat) : Int))) (w' := w1) ?_ e4, c2, h3, h4, f1.trans f2⟩
      by_cases hz0 : z = 0
      · subst hz0
        simp [g3_l10_b, hltI, e1, e2, hw0, e3, hw3]
      · have hp : 0 < z := by omega
        have hle : ¬ (z ≤ l - beg - (at_ - beg)) := by omega
        simp [g3_l10_b, hltI, e1, e2, hw0, e3, hw1, hw2, hw3, hp, hle]
    · have hbo : blockOf at_ l z = (at_, true, at_ + z) := by simp [blockOf, hok]
      rw [hbo] at e3 c1
      have hw4 : IntKind.u64.wrap (at_ + z) = at_ + z := wrap_u64 (by omega) (by omega)
      obtain ⟨at', w', e4, c2, h3, h4, f2⟩ := ih (k + 1) (at_ + z) w1 (by omega) (by omega) c1 hs1 (by omega) (by omega)
      refine ⟨at', w', loopS_next (s' := (false, at_ + z, ((k + 1 : Nat) : Int))) (w' := w1) ?_ e4, c2, h3, h4, f1.trans f2⟩
      have hz0 : z ≠ 0 := fun e => hok (.inl e)
      have hle : ¬ (l < at_ + z) := by omega
      simp [g3_l10_b, hltI, e1, e2, hw0, e3, hw1, hw2, hw3, hw4, hz0, hle]
end

theorem apart (u0 u1 : Int) (u2 : Option Addr × Nat × Nat) (zs : List Int) (w : World) (h0 : 0 ≤ u0) (h00 : u0 < 18446744073709551616) (h1 : 0 ≤ u1) (h11 : u1 < 18446744073709551616)
    (hz : ∀ z ∈ zs, 0 ≤ z ∧ z ≤ 255) (hlen : zs.length < 9223372036854775808) (hs : SlI .u8 w u2 zs) (hB : ∀ a, u2.1 = some a → 0 < u2.2.1 → a.block < w.heap.size) :
    ∃ w', callF Try.prog 3 #[.int .u64 u0, .int .u64 u1, .slice u2.1 u2.2.1 u2.2.2] w = some (.bool true, w') ∧ Fr [] w w' := by
  obtain ⟨w1, e1, c1, f1⟩ := new10 (w := w) u0 u1
  generalize hbeg : (if u1 < u0 then u1 else u0) = beg at c1
  have hb0 : 0 ≤ beg := by rw [← hbeg]; split <;> omega
  have hbl : beg ≤ u1 := by rw [← hbeg]; split <;> omega
  obtain ⟨w2, e2, f2⟩ := awake11 (w := w1)
  have c2 := c1.fr f2 (by simp)
  have e3 := left12 c2 hb0 hbl h11
  have f3 : Fr [w.heap.size] w w2.drew := ((f1.nil.trans f2.nil).trans (Fr.drew _ _))
  have hs3 : SlI .u8 w2.drew u2 zs := hs.fr f3 hB (by simp)
  obtain ⟨at', w4, e4, c4, h3, h4, f4⟩ := apart_loop (b := w.heap.size) (B := w.heap.size) (l := u1) (beg := beg) h11 hb0 hbl hz hlen hB (Nat.le_refl _) zs.length 0 beg w2.drew (by omega) (by omega) c2.drew hs3 (by omega) hbl
  have e5 := left12 c4 (by omega) h4 h11
  refine ⟨w4.drew, g3_call ?_, ?_⟩
  · have hw1 : IntKind.u64.wrap (at' - beg) = at' - beg := wrap_u64 (by omega) (by omega)
    have hw2 : IntKind.u64.wrap (u1 - beg - (at' - beg)) = u1 - beg - (at' - beg) := wrap_u64 (by omega) (by omega)
    have e6 := g3_l10_x0_of e4
    simp only [Int.natCast_zero] at e6
    have hfin : u1 - at' = u1 - beg - (at' - beg) := by omega
    simp [g3, e1, e2, e3, e6, g3_l10_x0, e5, hw1, hw2, hfin]
  · refine ((f3.trans f4).trans (Fr.drew _ _)).mono ?_
    intro x hx hlt
    simp at hx; omega
end Go.Proofs.Ytniibeofggdfoaa
