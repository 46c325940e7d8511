/-
  Cod: lemmas on what Go functions of this seat come to (for whatever arguments, as each says). No condition but those that stand in each lemma.
-/
import Derived.Test.YtjcenfgmpbeldaaLb9
namespace Go.Proofs.Ytjcenfgmpbeldaa
open Go Go.Ev
set_option maxRecDepth 100000
set_option linter.unusedVariables false
set_option linter.unusedSimpArgs false

def zag (n : Nat) : Int := if n % 2 = 0 then ((n / 2 : Nat) : Int) else -((n / 2 : Nat) : Int) - 1
inductive RU where
  | eof | bad | ok (n l : Nat)
/-- a whole number from the front of bytes, k of its bytes are read -/
def rdU : List Int → Nat → RU
  | [], _ => .eof
  | b :: t, k => if (k = 9 ∧ 1 < b) ∨ (0 < k ∧ b = 0) then .bad else if b < 128 then .ok b.toNat 1 else match rdU t (k + 1) with
    | .ok n l => .ok (b.toNat % 128 + 128 * n) (l + 1)
    | r => r

/-- a reader -/
structure RS where
  bs : List Int
  at_ : Nat
  e : Int
def RS.fail (s : RS) (e : Int) : RS := { s with e := if s.e = 0 then e else s.e }
def uintS (s : RS) : Nat × RS := if s.e ≠ 0 then (0, s) else match rdU (s.bs.drop s.at_) 0 with
  | .eof => (0, { s with e := 6 })
  | .bad => (0, { s with e := 7 })
  | .ok n l => (n, { s with at_ := s.at_ + l })
def intS (s : RS) : Int × RS := (zag (uintS s).1, (uintS s).2)
def intsL : Nat → RS → List Int → List Int × RS
  | 0, s, acc => (acc, s)
  | n + 1, s, acc => if (intS s).2.e ≠ 0 then ([], (intS s).2) else intsL n (intS s).2 (acc ++ [(intS s).1])
def intsS (s : RS) : List Int × RS := if 4096 < (uintS s).1 then ([], (uintS s).2.fail 2) else intsL (uintS s).1 (uintS s).2 []
def flagS (s : RS) : Bool × RS := if 1 < (uintS s).1 then (false, (uintS s).2.fail 7) else ((uintS s).1 == 1, (uintS s).2)
def endS (s : RS) : Int := if s.e = 0 ∧ s.at_ < s.bs.length then 6 else s.e

/-! the operations on bits -/
theorem and127 {b : Int} (h : 0 ≤ b ∧ b ≤ 255) : (((BitVec.ofInt 8 b &&& BitVec.ofInt 8 127).toNat : Nat) : Int) = b % 128 := by
  have key : ∀ x : Fin 256, (BitVec.ofInt 8 ((x.val : Nat) : Int) &&& BitVec.ofInt 8 127).toNat = x.val % 128 := by decide
  have := key ⟨b.toNat, by omega⟩
  simp only at this
  rw [show ((b.toNat : Nat) : Int) = b by omega] at this
  rw [this]; omega
theorem ofInt64_nat (n : Nat) (h : n < 2 ^ 64) : (BitVec.ofInt 64 (n : Int)).toNat = n := by
  rw [BitVec.toNat_ofInt]; omega
theorem or_add {a m k : Nat} (ha : a < 2 ^ k) (hm : a + 2 ^ k * m < 2 ^ 64) : (((BitVec.ofInt 64 (a : Int) ||| BitVec.ofInt 64 ((2 ^ k * m : Nat) : Int)).toNat : Nat) : Int) = ((a + 2 ^ k * m : Nat) : Int) := by
  rw [BitVec.toNat_or, ofInt64_nat a (by omega), ofInt64_nat _ (by omega), Nat.or_comm, ← Nat.two_pow_add_eq_or_of_lt ha m, Nat.add_comm]
theorem zag_bits {n : Nat} (h : n < 2 ^ 64) :
    IntKind.i64.wrap ((BitVec.ofInt 64 (IntKind.i64.wrap (Int.fdiv n (2 ^ (min (Int.toNat 1) 64)))) ^^^ BitVec.ofInt 64 (IntKind.i64.wrap (0 - (IntKind.i64.wrap (IntKind.u64.wrap ((BitVec.ofInt 64 n &&& BitVec.ofInt 64 1).toNat : Nat)))))).toNat : Nat) = zag n := by
  have ew : ∀ n : Int, IntKind.u64.wrap n = n % 18446744073709551616 := fun n => by simp [IntKind.wrap, IntKind.bits, IntKind.signed]
  have e1 : (2 : Int) ^ (min (Int.toNat 1) 64) = 2 := by decide
  have e3 : (BitVec.ofInt 64 (n : Int) &&& BitVec.ofInt 64 1).toNat = n % 2 := by
    rw [BitVec.toNat_and, ofInt64_nat n h, show (BitVec.ofInt 64 1).toNat = 1 by decide, Nat.and_one_is_mod]
  have f1 : Int.fdiv (n : Int) 2 = ((n / 2 : Nat) : Int) := by rw [Int.fdiv_eq_ediv_of_nonneg _ (by omega)]; omega
  rw [e1, e3, f1, wrap_i64 (n := ((n / 2 : Nat) : Int)) (by omega) (by omega)]
  by_cases h0 : n % 2 = 0
  · rw [h0, show IntKind.i64.wrap (0 - IntKind.i64.wrap (IntKind.u64.wrap ((0 : Nat) : Int))) = ((0 : Nat) : Int) by decide, BitVec.toNat_xor, ofInt64_nat _ (by omega), ofInt64_nat _ (by omega), Nat.xor_zero, wrap_i64 (by omega) (by omega)]
    unfold zag; rw [if_pos h0]
  · rw [show n % 2 = 1 by omega, show BitVec.ofInt 64 (IntKind.i64.wrap (0 - IntKind.i64.wrap (IntKind.u64.wrap ((1 : Nat) : Int)))) = BitVec.allOnes 64 by decide, BitVec.xor_allOnes, BitVec.toNat_not, ofInt64_nat _ (by omega)]
    have e : IntKind.i64.wrap ((2 ^ 64 - 1 - n / 2 : Nat) : Int) = (if 9223372036854775808 ≤ ((2 ^ 64 - 1 - n / 2 : Nat) : Int) % 18446744073709551616 then ((2 ^ 64 - 1 - n / 2 : Nat) : Int) % 18446744073709551616 - 18446744073709551616 else ((2 ^ 64 - 1 - n / 2 : Nat) : Int) % 18446744073709551616) := by simp [IntKind.wrap, IntKind.bits, IntKind.signed]
    rw [e]
    unfold zag; rw [if_neg h0]; split <;> omega
end Go.Proofs.Ytjcenfgmpbeldaa
