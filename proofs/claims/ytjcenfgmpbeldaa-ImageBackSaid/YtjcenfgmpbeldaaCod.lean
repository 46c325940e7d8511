/-
  Cod: lemmas on what Go functions of this seat come to (for whatever arguments, as each says). No condition but those that stand in each lemma.
-/
import Derived.Test.YtjcenfgmpbeldaaLb9
namespace Go.Proofs.Ytjcenfgmpbeldaa
open Go Go.Ev
set_option maxRecDepth 100000
set_option linter.unusedVariables false
set_option linter.unusedSimpArgs false

/-- a whole number's form -/
def encU (n : Nat) : List Int := if n < 128 then [(n : Int)] else ((n % 128 + 128 : Nat) : Int) :: encU (n / 128)
termination_by n
decreasing_by omega
theorem encU_lt {n : Nat} (h : n < 128) : encU n = [(n : Int)] := by rw [encU, if_pos h]
theorem encU_ge {n : Nat} (h : ¬ n < 128) : encU n = ((n % 128 + 128 : Nat) : Int) :: encU (n / 128) := by rw [encU, if_neg h]
def zig (z : Int) : Nat := if 0 ≤ z then (2 * z).toNat else (2 * (-(z + 1)) + 1).toNat
def zag (n : Nat) : Int := if n % 2 = 0 then ((n / 2 : Nat) : Int) else -((n / 2 : Nat) : Int) - 1
def encI (z : Int) : List Int := encU (zig z)
def encL (l : List Int) : List Int := encU l.length ++ (l.map encI).flatten
def encF (b : Bool) : List Int := [if b then 1 else 0]

inductive RU where
  | eof | bad | ok (n l : Nat)
/-- a whole number from the front of bytes, k of its bytes are read -/
def rdU : List Int → Nat → RU
  | [], _ => .eof
  | b :: t, k => if (k = 9 ∧ 1 < b) ∨ (0 < k ∧ b = 0) then .bad else if b < 128 then .ok b.toNat 1 else match rdU t (k + 1) with
    | .ok n l => .ok (b.toNat % 128 + 128 * n) (l + 1)
    | r => r

/-- a reader -/
structure RS where
  bs : List Int
  at_ : Nat
  e : Int
def RS.fail (s : RS) (e : Int) : RS := { s with e := if s.e = 0 then e else s.e }
def uintS (s : RS) : Nat × RS := if s.e ≠ 0 then (0, s) else match rdU (s.bs.drop s.at_) 0 with
  | .eof => (0, { s with e := 6 })
  | .bad => (0, { s with e := 7 })
  | .ok n l => (n, { s with at_ := s.at_ + l })
def intS (s : RS) : Int × RS := (zag (uintS s).1, (uintS s).2)
def intsL : Nat → RS → List Int → List Int × RS
  | 0, s, acc => (acc, s)
  | n + 1, s, acc => if (intS s).2.e ≠ 0 then ([], (intS s).2) else intsL n (intS s).2 (acc ++ [(intS s).1])
def intsS (s : RS) : List Int × RS := if 4096 < (uintS s).1 then ([], (uintS s).2.fail 2) else intsL (uintS s).1 (uintS s).2 []
def flagS (s : RS) : Bool × RS := if 1 < (uintS s).1 then (false, (uintS s).2.fail 7) else ((uintS s).1 == 1, (uintS s).2)
def endS (s : RS) : Int := if s.e = 0 ∧ s.at_ < s.bs.length then 6 else s.e

theorem rdU_enc : ∀ (n k : Nat) (t : List Int), k ≤ 9 → n < 2 ^ (64 - 7 * k) → (0 < k → 0 < n) → rdU (encU n ++ t) k = .ok n (encU n).length := by
  intro n
  induction n using Nat.strongRecOn with
  | ind n ih =>
    intro k t hk hn h0
    by_cases h : n < 128
    · rw [encU_lt h]
      simp only [List.cons_append, List.nil_append, rdU, List.length_cons, List.length_nil]
      have c1 : ¬ ((k = 9 ∧ 1 < (n : Int)) ∨ (0 < k ∧ (n : Int) = 0)) := by
        rintro (⟨rfl, h1⟩ | ⟨h1, h2⟩)
        · have : n < 2 := hn
          omega
        · have := h0 h1; omega
      rw [if_neg c1, if_pos (by omega)]
      simp
    · have hk9 : k ≠ 9 := by
        rintro rfl
        have : n < 2 := hn
        omega
      have hr := ih (n / 128) (by omega) (k + 1) t (by omega) (by
        have e : 2 ^ (64 - 7 * k) = 128 * 2 ^ (64 - 7 * (k + 1)) := by
          rw [show 64 - 7 * k = 64 - 7 * (k + 1) + 7 by omega, Nat.pow_add]; omega
        rw [e] at hn
        exact Nat.div_lt_of_lt_mul hn) (by omega)
      rw [encU_ge h]
      simp only [List.cons_append, rdU, List.length_cons]
      rw [if_neg (by omega), if_neg (by omega), hr]
      simp only
      congr 1
      omega

theorem encU_range (n : Nat) : ∀ b ∈ encU n, 0 ≤ b ∧ b ≤ 255 := by
  induction n using Nat.strongRecOn with
  | ind n ih =>
    by_cases h : n < 128
    · rw [encU_lt h]; intro b hb; simp at hb; omega
    · rw [encU_ge h]
      intro b hb
      rcases List.mem_cons.mp hb with rfl | hb
      · omega
      · exact ih _ (by omega) b hb

theorem encU_len : ∀ (k n : Nat), n < 128 ^ k → 0 < k → (encU n).length ≤ k
  | 0, n, h, h0 => by omega
  | k + 1, n, h, _ => by
    by_cases h1 : n < 128
    · rw [encU_lt h1]; simp
    · rw [encU_ge h1]
      have hk : 0 < k := by
        rcases Nat.eq_zero_or_pos k with rfl | h
        · simp at h; omega
        · exact h
      have := encU_len k (n / 128) (by rw [Nat.pow_succ, Nat.mul_comm] at h; exact Nat.div_lt_of_lt_mul h) hk
      simp; omega
theorem encU_len10 {n : Nat} (h : n < 2 ^ 64) : (encU n).length ≤ 10 := encU_len 10 n (by omega) (by omega)
theorem encU_pos (n : Nat) : 0 < (encU n).length := by
  by_cases h : n < 128
  · rw [encU_lt h]; simp
  · rw [encU_ge h]; simp

theorem zig_lt {z : Int} (h : -9223372036854775808 ≤ z ∧ z ≤ 9223372036854775807) : zig z < 2 ^ 64 := by
  unfold zig; split <;> omega
theorem zag_zig (z : Int) : zag (zig z) = z := by
  unfold zig zag; split <;> split <;> omega

/-- what is read of a form: the number, and on behind it -/
theorem uintS_enc {s : RS} {n : Nat} {t : List Int} (he : s.e = 0) (h : s.bs.drop s.at_ = encU n ++ t) (hn : n < 2 ^ 64) :
    uintS s = (n, { s with at_ := s.at_ + (encU n).length }) := by
  unfold uintS
  rw [if_neg (by simp [he]), h, rdU_enc n 0 t (by omega) (by simpa using hn) (by omega)]
theorem drop_on {s : RS} {a t : List Int} (h : s.bs.drop s.at_ = a ++ t) : s.bs.drop (s.at_ + a.length) = t := by
  rw [← List.drop_drop, h, List.drop_left]
theorem intS_enc {s : RS} {z : Int} {t : List Int} (he : s.e = 0) (h : s.bs.drop s.at_ = encI z ++ t) (hz : -9223372036854775808 ≤ z ∧ z ≤ 9223372036854775807) :
    intS s = (z, { s with at_ := s.at_ + (encI z).length }) := by
  unfold intS
  rw [uintS_enc he h (zig_lt hz), zag_zig]; rfl
theorem flagS_enc {s : RS} {b : Bool} {t : List Int} (he : s.e = 0) (h : s.bs.drop s.at_ = encF b ++ t) :
    flagS s = (b, { s with at_ := s.at_ + (encF b).length }) := by
  have h' : s.bs.drop s.at_ = encU (if b then 1 else 0) ++ t := by
    rw [h]; cases b <;> simp [encF, encU_lt]
  unfold flagS
  rw [uintS_enc he h' (by cases b <;> decide)]
  cases b <;> simp [encF, encU_lt]
theorem intsL_enc : ∀ (l : List Int) (s : RS) (acc t : List Int), s.e = 0 → s.bs.drop s.at_ = (l.map encI).flatten ++ t → (∀ z ∈ l, -9223372036854775808 ≤ z ∧ z ≤ 9223372036854775807) →
    intsL l.length s acc = (acc ++ l, { s with at_ := s.at_ + (l.map encI).flatten.length })
  | [], s, acc, t, he, h, hz => by simp [intsL]
  | z :: l, s, acc, t, he, h, hz => by
    have h' : s.bs.drop s.at_ = encI z ++ ((l.map encI).flatten ++ t) := by rw [h]; simp
    have e1 := intS_enc he h' (hz z (by simp))
    have e2 := intsL_enc l (intS s).2 (acc ++ [z]) t (by rw [e1]; exact he) (by rw [e1]; exact drop_on h') (fun y hy => hz y (by simp [hy]))
    simp only [List.length_cons, intsL]
    rw [if_neg (by rw [e1]; simp [he]), show (intS s).1 = z by rw [e1], e2, e1]
    simp [Nat.add_assoc]
theorem intsS_enc {s : RS} {l t : List Int} (he : s.e = 0) (h : s.bs.drop s.at_ = encL l ++ t) (hl : l.length ≤ 4096) (hz : ∀ z ∈ l, -9223372036854775808 ≤ z ∧ z ≤ 9223372036854775807) :
    intsS s = (l, { s with at_ := s.at_ + (encL l).length }) := by
  have h' : s.bs.drop s.at_ = encU l.length ++ ((l.map encI).flatten ++ t) := by rw [h]; simp [encL]
  have e1 := uintS_enc he h' (by omega)
  unfold intsS
  rw [e1]
  simp only
  rw [if_neg (by omega), intsL_enc l { s with at_ := s.at_ + (encU l.length).length } [] t he (drop_on h') hz]
  simp [encL, Nat.add_assoc]

/-! the operations on bits -/
theorem and127 {b : Int} (h : 0 ≤ b ∧ b ≤ 255) : (((BitVec.ofInt 8 b &&& BitVec.ofInt 8 127).toNat : Nat) : Int) = b % 128 := by
  have key : ∀ x : Fin 256, (BitVec.ofInt 8 ((x.val : Nat) : Int) &&& BitVec.ofInt 8 127).toNat = x.val % 128 := by decide
  have := key ⟨b.toNat, by omega⟩
  simp only at this
  rw [show ((b.toNat : Nat) : Int) = b by omega] at this
  rw [this]; omega
theorem or128 {b : Int} (h : 0 ≤ b ∧ b ≤ 255) : (((BitVec.ofInt 8 b ||| BitVec.ofInt 8 128).toNat : Nat) : Int) = b % 128 + 128 := by
  have key : ∀ x : Fin 256, (BitVec.ofInt 8 ((x.val : Nat) : Int) ||| BitVec.ofInt 8 128).toNat = x.val % 128 + 128 := by decide
  have := key ⟨b.toNat, by omega⟩
  simp only at this
  rw [show ((b.toNat : Nat) : Int) = b by omega] at this
  rw [this]; omega
theorem ofInt64_nat (n : Nat) (h : n < 2 ^ 64) : (BitVec.ofInt 64 (n : Int)).toNat = n := by
  rw [BitVec.toNat_ofInt]; omega
theorem or_add {a m k : Nat} (ha : a < 2 ^ k) (hm : a + 2 ^ k * m < 2 ^ 64) : (((BitVec.ofInt 64 (a : Int) ||| BitVec.ofInt 64 ((2 ^ k * m : Nat) : Int)).toNat : Nat) : Int) = ((a + 2 ^ k * m : Nat) : Int) := by
  rw [BitVec.toNat_or, ofInt64_nat a (by omega), ofInt64_nat _ (by omega), Nat.or_comm, ← Nat.two_pow_add_eq_or_of_lt ha m, Nat.add_comm]
theorem zig_bits {z : Int} (h : -9223372036854775808 ≤ z ∧ z ≤ 9223372036854775807) :
    IntKind.u64.wrap ((BitVec.ofInt 64 (IntKind.u64.wrap ((IntKind.u64.wrap z) * 2 ^ (min (Int.toNat 1) 64))) ^^^ BitVec.ofInt 64 (IntKind.u64.wrap (Int.fdiv z (2 ^ (min (Int.toNat 63) 64))))).toNat : Nat) = (zig z : Int) := by
  have ew : ∀ n : Int, IntKind.u64.wrap n = n % 18446744073709551616 := fun n => by simp [IntKind.wrap, IntKind.bits, IntKind.signed]
  have e1 : (2 : Int) ^ (min (Int.toNat 1) 64) = 2 := by decide
  have e2 : (2 : Int) ^ (min (Int.toNat 63) 64) = 9223372036854775808 := by decide
  rw [e1, e2]
  by_cases h0 : 0 ≤ z
  · have f1 : Int.fdiv z 9223372036854775808 = 0 := by rw [Int.fdiv_eq_ediv_of_nonneg _ (by omega)]; omega
    have f2 : IntKind.u64.wrap (IntKind.u64.wrap z * 2) = (((2 * z).toNat : Nat) : Int) := by simp only [ew]; omega
    rw [f1, f2, show IntKind.u64.wrap 0 = ((0 : Nat) : Int) by rfl, BitVec.toNat_xor, ofInt64_nat _ (by omega), ofInt64_nat _ (by omega), Nat.xor_zero, ew]
    unfold zig; rw [if_pos h0]; omega
  · have f1 : Int.fdiv z 9223372036854775808 = -1 := by rw [Int.fdiv_eq_ediv_of_nonneg _ (by omega)]; omega
    have f2 : IntKind.u64.wrap (IntKind.u64.wrap z * 2) = (((18446744073709551616 + 2 * z).toNat : Nat) : Int) := by simp only [ew]; omega
    have f3 : BitVec.ofInt 64 (IntKind.u64.wrap (-1)) = BitVec.allOnes 64 := by decide
    rw [f1, f2, f3, BitVec.xor_allOnes, BitVec.toNat_not, ofInt64_nat _ (by omega), ew]
    unfold zig; rw [if_neg h0]; omega
theorem zag_bits {n : Nat} (h : n < 2 ^ 64) :
    IntKind.i64.wrap ((BitVec.ofInt 64 (IntKind.i64.wrap (Int.fdiv n (2 ^ (min (Int.toNat 1) 64)))) ^^^ BitVec.ofInt 64 (IntKind.i64.wrap (0 - (IntKind.i64.wrap (IntKind.u64.wrap ((BitVec.ofInt 64 n &&& BitVec.ofInt 64 1).toNat : Nat)))))).toNat : Nat) = zag n := by
  have ew : ∀ n : Int, IntKind.u64.wrap n = n % 18446744073709551616 := fun n => by simp [IntKind.wrap, IntKind.bits, IntKind.signed]
  have e1 : (2 : Int) ^ (min (Int.toNat 1) 64) = 2 := by decide
  have e3 : (BitVec.ofInt 64 (n : Int) &&& BitVec.ofInt 64 1).toNat = n % 2 := by
    rw [BitVec.toNat_and, ofInt64_nat n h, show (BitVec.ofInt 64 1).toNat = 1 by decide, Nat.and_one_is_mod]
  have f1 : Int.fdiv (n : Int) 2 = ((n / 2 : Nat) : Int) := by rw [Int.fdiv_eq_ediv_of_nonneg _ (by omega)]; omega
  rw [e1, e3, f1, wrap_i64 (n := ((n / 2 : Nat) : Int)) (by omega) (by omega)]
  by_cases h0 : n % 2 = 0
  · rw [h0, show IntKind.i64.wrap (0 - IntKind.i64.wrap (IntKind.u64.wrap ((0 : Nat) : Int))) = ((0 : Nat) : Int) by decide, BitVec.toNat_xor, ofInt64_nat _ (by omega), ofInt64_nat _ (by omega), Nat.xor_zero, wrap_i64 (by omega) (by omega)]
    unfold zag; rw [if_pos h0]
  · rw [show n % 2 = 1 by omega, show BitVec.ofInt 64 (IntKind.i64.wrap (0 - IntKind.i64.wrap (IntKind.u64.wrap ((1 : Nat) : Int)))) = BitVec.allOnes 64 by decide, BitVec.xor_allOnes, BitVec.toNat_not, ofInt64_nat _ (by omega)]
    have e : IntKind.i64.wrap ((2 ^ 64 - 1 - n / 2 : Nat) : Int) = (if 9223372036854775808 ≤ ((2 ^ 64 - 1 - n / 2 : Nat) : Int) % 18446744073709551616 then ((2 ^ 64 - 1 - n / 2 : Nat) : Int) % 18446744073709551616 - 18446744073709551616 else ((2 ^ 64 - 1 - n / 2 : Nat) : Int) % 18446744073709551616) := by simp [IntKind.wrap, IntKind.bits, IntKind.signed]
    rw [e]
    unfold zag; rw [if_neg h0]; split <;> omega
end Go.Proofs.Ytjcenfgmpbeldaa
