/-
  CodR: lemmas on what Go functions of this seat come to (for whatever arguments, as each says). No condition but those that stand in each lemma.
-/
import Derived.Test.YtjcenfgmpbeldaaCod
namespace Go.Proofs.Ytjcenfgmpbeldaa
open Go Go.Ev
set_option maxRecDepth 100000
set_option linter.unusedVariables false
set_option linter.unusedSimpArgs false

theorem rdU_bound : ∀ (bs : List Int) (k n l : Nat), (∀ b ∈ bs, 0 ≤ b ∧ b ≤ 255) → k ≤ 9 → rdU bs k = .ok n l → n < 2 ^ (64 - 7 * k) ∧ l ≤ bs.length
  | [], k, n, l, _, _, h => by simp [rdU] at h
  | b :: t, k, n, l, hb, hk, h => by
    have hb0 := hb b (by simp)
    simp only [rdU] at h
    split at h
    · cases h
    · rename_i hc
      split at h
      · cases h
        refine ⟨?_, by simp⟩
        by_cases h9 : k = 9
        · subst h9
          have : ¬ (1 < b) := fun hh => hc (.inl ⟨rfl, hh⟩)
          show b.toNat < 2
          omega
        · have e : 2 ^ (64 - 7 * k) = 128 * 2 ^ (64 - 7 * (k + 1)) := by
            rw [show 64 - 7 * k = 64 - 7 * (k + 1) + 7 by omega, Nat.pow_add]; omega
          have := Nat.two_pow_pos (64 - 7 * (k + 1))
          omega
      · rename_i h128
        have h9 : k ≠ 9 := fun h9 => hc (.inl ⟨h9, by omega⟩)
        have e : 2 ^ (64 - 7 * k) = 128 * 2 ^ (64 - 7 * (k + 1)) := by
          rw [show 64 - 7 * k = 64 - 7 * (k + 1) + 7 by omega, Nat.pow_add]; omega
        cases hr : rdU t (k + 1) with
        | eof => rw [hr] at h; simp at h
        | bad => rw [hr] at h; simp at h
        | ok n' l' =>
          rw [hr] at h
          simp only [RU.ok.injEq] at h
          obtain ⟨rfl, rfl⟩ := h
          obtain ⟨h1, h2⟩ := rdU_bound t (k + 1) n' l' (fun x hx => hb x (by simp [hx])) (by omega) hr
          refine ⟨?_, by simp; omega⟩
          omega

def comb (acc k : Nat) : RU → RU
  | .ok n l => .ok (acc + 2 ^ (7 * k) * n) (l + k)
  | r => r

structure RS.Ok (s : RS) : Prop where
  byte : ∀ b ∈ s.bs, 0 ≤ b ∧ b ≤ 255
  at_ : s.at_ ≤ s.bs.length
  len : s.bs.length ≤ 4611686018427387904

theorem RS.Ok.uint {s : RS} (h : s.Ok) : (uintS s).1 < 2 ^ 64 ∧ (uintS s).2.Ok ∧ (uintS s).2.bs = s.bs := by
  unfold uintS
  split
  · exact ⟨Nat.two_pow_pos 64, h, rfl⟩
  · cases hr : rdU (s.bs.drop s.at_) 0 with
    | eof => exact ⟨by simp, ⟨h.byte, h.at_, h.len⟩, rfl⟩
    | bad => exact ⟨by simp, ⟨h.byte, h.at_, h.len⟩, rfl⟩
    | ok n l =>
      obtain ⟨h1, h2⟩ := rdU_bound _ 0 n l (fun b hb => h.byte b (List.mem_of_mem_drop hb)) (by omega) hr
      have := h.at_
      simp only [List.length_drop] at h2
      exact ⟨by simpa using h1, ⟨h.byte, by simp only; omega, h.len⟩, rfl⟩
theorem zag_range {n : Nat} (h : n < 2 ^ 64) : -9223372036854775808 ≤ zag n ∧ zag n ≤ 9223372036854775807 := by
  unfold zag; split <;> omega
theorem RS.Ok.int {s : RS} (h : s.Ok) : (-9223372036854775808 ≤ (intS s).1 ∧ (intS s).1 ≤ 9223372036854775807) ∧ (intS s).2.Ok ∧ (intS s).2.bs = s.bs :=
  ⟨zag_range h.uint.1, h.uint.2.1, h.uint.2.2⟩
theorem RS.Ok.fail {s : RS} (h : s.Ok) (e : Int) : (s.fail e).Ok := ⟨h.byte, h.at_, h.len⟩
theorem intsL_ok : ∀ (n : Nat) (s : RS) (acc : List Int), s.Ok → (∀ z ∈ acc, -9223372036854775808 ≤ z ∧ z ≤ 9223372036854775807) →
    (∀ z ∈ (intsL n s acc).1, -9223372036854775808 ≤ z ∧ z ≤ 9223372036854775807) ∧ (intsL n s acc).2.Ok ∧ (intsL n s acc).2.bs = s.bs ∧ (intsL n s acc).1.length ≤ acc.length + n
  | 0, s, acc, h, ha => ⟨ha, h, rfl, by simp [intsL]⟩
  | n + 1, s, acc, h, ha => by
    simp only [intsL]
    split
    · exact ⟨by simp, h.int.2.1, h.int.2.2, by simp⟩
    · obtain ⟨h1, h2, h3, h4⟩ := intsL_ok n (intS s).2 (acc ++ [(intS s).1]) h.int.2.1 (by
        intro z hz
        rcases List.mem_append.mp hz with hz | hz
        · exact ha z hz
        · simp only [List.mem_singleton] at hz; subst hz; exact h.int.1)
      exact ⟨h1, h2, h3.trans h.int.2.2, by simp only [List.length_append, List.length_singleton] at h4; omega⟩
theorem RS.Ok.ints {s : RS} (h : s.Ok) : (∀ z ∈ (intsS s).1, -9223372036854775808 ≤ z ∧ z ≤ 9223372036854775807) ∧ (intsS s).2.Ok ∧ (intsS s).2.bs = s.bs ∧ (intsS s).1.length ≤ 4096 := by
  unfold intsS
  split
  · exact ⟨by simp, h.uint.2.1.fail 2, h.uint.2.2, by simp⟩
  · obtain ⟨h1, h2, h3, h4⟩ := intsL_ok (uintS s).1 (uintS s).2 [] h.uint.2.1 (by simp)
    exact ⟨h1, h2, h3.trans h.uint.2.2, by simp only [List.length_nil] at h4; omega⟩
theorem RS.Ok.flag {s : RS} (h : s.Ok) : (flagS s).2.Ok ∧ (flagS s).2.bs = s.bs := by
  unfold flagS
  split
  · exact ⟨h.uint.2.1.fail 7, h.uint.2.2⟩
  · exact ⟨h.uint.2.1, h.uint.2.2⟩
theorem uintS_of {s : RS} (he : s.e = 0) : uintS s = match rdU (s.bs.drop s.at_) 0 with
  | .eof => (0, { s with e := 6 })
  | .bad => (0, { s with e := 7 })
  | .ok n l => (n, { s with at_ := s.at_ + l }) := by unfold uintS; rw [if_neg (by simp [he])]; rfl

theorem shl_bound {acc k m : Nat} (ha : acc < 2 ^ (7 * k)) (hk : k ≤ 9) (hm : m < 128) (h9 : k = 9 → m ≤ 1) : acc + 2 ^ (7 * k) * m < 2 ^ 64 ∧ (k < 9 → acc + 2 ^ (7 * k) * m < 2 ^ (7 * (k + 1))) := by
  have : k = 0 ∨ k = 1 ∨ k = 2 ∨ k = 3 ∨ k = 4 ∨ k = 5 ∨ k = 6 ∨ k = 7 ∨ k = 8 ∨ k = 9 := by omega
  rcases this with rfl | rfl | rfl | rfl | rfl | rfl | rfl | rfl | rfl | rfl <;> simp only [Nat.reduceMul, Nat.reducePow, Nat.reduceAdd, Nat.mul_zero, Nat.pow_zero] at ha ⊢ <;> omega

theorem pow_int (k : Nat) : ((2 : Int) ^ k) = ((2 ^ k : Nat) : Int) := by simp
theorem wr8 {b : Int} (h : 0 ≤ b ∧ b ≤ 255) : IntKind.u8.wrap b = b := by
  have ew : ∀ n : Int, IntKind.u8.wrap n = n % 256 := fun n => by simp [IntKind.wrap, IntKind.bits, IntKind.signed]
  rw [ew]; omega
theorem or_val {acc k : Nat} {b : Int} (hb : 0 ≤ b ∧ b ≤ 255) (ha : acc < 2 ^ (7 * k)) (hk : k ≤ 9) (hm : acc + 2 ^ (7 * k) * (b.toNat % 128) < 2 ^ 64) :
    IntKind.u64.wrap ((BitVec.ofInt 64 (acc : Int) ||| BitVec.ofInt 64 (IntKind.u64.wrap ((IntKind.u64.wrap (IntKind.u8.wrap ((BitVec.ofInt 8 b &&& BitVec.ofInt 8 127).toNat : Nat))) * 2 ^ (min (Int.toNat ((7 * k : Nat) : Int)) 64)))).toNat : Nat) = ((acc + 2 ^ (7 * k) * (b.toNat % 128) : Nat) : Int) := by
  have e0 : min (Int.toNat ((7 * k : Nat) : Int)) 64 = 7 * k := by simp; omega
  rw [e0, and127 hb, wr8 (by omega), wrap_u64 (n := b % 128) (by omega) (by omega), pow_int]
  have e1 : b % 128 * ((2 ^ (7 * k) : Nat) : Int) = ((2 ^ (7 * k) * (b.toNat % 128) : Nat) : Int) := by
    rw [Int.natCast_mul, Int.mul_comm]
    congr 1
    omega
  rw [e1, wrap_u64 (n := ((2 ^ (7 * k) * (b.toNat % 128) : Nat) : Int)) (by omega) (by omega), or_add ha hm, wrap_u64 (by omega) (by omega)]
theorem add_val {acc k : Nat} {b : Int} (hb : 0 ≤ b ∧ b ≤ 255) (hk : k ≤ 9) (hm : acc + 2 ^ (7 * k) * (b.toNat % 128) < 2 ^ 64) :
    IntKind.u64.wrap ((acc : Int) + (IntKind.u64.wrap ((Int.tmod (IntKind.u64.wrap b) 128) * 2 ^ (min (Int.toNat (IntKind.u64.wrap (IntKind.i64.wrap (7 * (k : Int))))) 64)))) = ((acc + 2 ^ (7 * k) * (b.toNat % 128) : Nat) : Int) := by
  have e0 : min (Int.toNat (IntKind.u64.wrap (IntKind.i64.wrap (7 * (k : Int))))) 64 = 7 * k := by
    rw [wrap_i64 (by omega) (by omega), wrap_u64 (by omega) (by omega)]; omega
  rw [e0, wrap_u64 (n := b) (by omega) (by omega), Int.tmod_eq_emod_of_nonneg hb.1, pow_int]
  have e1 : b % 128 * ((2 ^ (7 * k) : Nat) : Int) = ((2 ^ (7 * k) * (b.toNat % 128) : Nat) : Int) := by
    rw [Int.natCast_mul, Int.mul_comm]
    congr 1
    omega
  rw [e1, wrap_u64 (n := ((2 ^ (7 * k) * (b.toNat % 128) : Nat) : Int)) (by omega) (by omega), wrap_u64 (by omega) (by omega)]
  omega
/-- one byte of a number -/
theorem comb_step {acc k : Nat} {b : Int} {t : List Int} (hb : 0 ≤ b ∧ b ≤ 255) (hc : ¬ ((k = 9 ∧ 1 < b) ∨ (0 < k ∧ b = 0))) (h : ¬ b < 128) :
    comb acc k (rdU (b :: t) k) = comb (acc + 2 ^ (7 * k) * (b.toNat % 128)) (k + 1) (rdU t (k + 1)) := by
  simp only [rdU]
  rw [if_neg hc, if_neg h]
  cases rdU t (k + 1) with
  | eof => rfl
  | bad => rfl
  | ok n l =>
    simp only [comb]
    congr 1
    · rw [show 7 * (k + 1) = 7 * k + 7 by omega, Nat.pow_add, Nat.mul_add, Nat.add_assoc]
      congr 2
      rw [show (2 : Nat) ^ 7 = 128 by rfl, Nat.mul_assoc]
    · omega
end Go.Proofs.Ytjcenfgmpbeldaa
