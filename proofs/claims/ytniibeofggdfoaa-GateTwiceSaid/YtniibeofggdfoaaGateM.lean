/-
  GateM: lemmas on what Go functions of this seat come to (for whatever arguments, as each says). No condition but those that stand in each lemma.
-/
import Derived.Test.YtniibeofggdfoaaGateF2
import Derived.Test.YtniibeofggdfoaaGateF5
import Derived.Test.YtniibeofggdfoaaPop
namespace Go.Proofs.Ytniibeofggdfoaa
open Go Go.Ev
set_option maxRecDepth 100000
set_option linter.unusedVariables false
set_option linter.unusedSimpArgs false

/-! ## the number of bits -/
def s1I (x : Int) : Int := IntKind.u64.wrap ((IntKind.u64.wrap ((BitVec.ofInt 64 (Int.fdiv x (2 ^ (min (Int.toNat 1) 64))) &&& BitVec.ofInt 64 6148914691236517205).toNat : Nat)) + (IntKind.u64.wrap ((BitVec.ofInt 64 x &&& BitVec.ofInt 64 6148914691236517205).toNat : Nat)))
def s2I (x : Int) : Int := IntKind.u64.wrap ((IntKind.u64.wrap ((BitVec.ofInt 64 (Int.fdiv x (2 ^ (min (Int.toNat 2) 64))) &&& BitVec.ofInt 64 3689348814741910323).toNat : Nat)) + (IntKind.u64.wrap ((BitVec.ofInt 64 x &&& BitVec.ofInt 64 3689348814741910323).toNat : Nat)))
def s3I (x : Int) : Int := IntKind.u64.wrap ((BitVec.ofInt 64 (IntKind.u64.wrap ((Int.fdiv x (2 ^ (min (Int.toNat 4) 64))) + x)) &&& BitVec.ofInt 64 1085102592571150095).toNat : Nat)
def s4I (x : Int) : Int := IntKind.u64.wrap (x + (Int.fdiv x (2 ^ (min (Int.toNat 8) 64))))
def s5I (x : Int) : Int := IntKind.u64.wrap (x + (Int.fdiv x (2 ^ (min (Int.toNat 16) 64))))
def s6I (x : Int) : Int := IntKind.u64.wrap (x + (Int.fdiv x (2 ^ (min (Int.toNat 32) 64))))
def s7I (x : Int) : Int := IntKind.i64.wrap ((BitVec.ofInt 64 (IntKind.i64.wrap x) &&& BitVec.ofInt 64 127).toNat : Nat)

theorem fdivN (n k : Nat) : Int.fdiv (n : Int) (2 ^ k) = ((n / 2 ^ k : Nat) : Int) := by
  have e : (2 : Int) ^ k = ((2 ^ k : Nat) : Int) := by simp
  rw [e, Int.fdiv_eq_ediv_of_nonneg _ (Int.natCast_nonneg _)]; rfl
theorem andN {a b : Nat} (ha : a < 18446744073709551616) (hb : b < 18446744073709551616) : ((BitVec.ofInt 64 (a : Int) &&& BitVec.ofInt 64 (b : Int)).toNat : Nat) = a &&& b := by
  rw [BitVec.toNat_and, BitVec.ofInt_natCast, BitVec.ofInt_natCast, BitVec.toNat_ofNat, BitVec.toNat_ofNat, Nat.mod_eq_of_lt (by simpa using ha), Nat.mod_eq_of_lt (by simpa using hb)]
theorem wrapN (n : Nat) : IntKind.u64.wrap (n : Int) = ((n % 18446744073709551616 : Nat) : Int) := by
  have e : IntKind.u64.wrap (n : Int) = (n : Int) % 18446744073709551616 := by simp [IntKind.wrap, IntKind.bits, IntKind.signed]
  rw [e]; omega

theorem s1I_eq {n : Nat} (h : n < 18446744073709551616) : s1I (n : Int) = ((Pop.p1 n : Nat) : Int) ∧ Pop.p1 n < 18446744073709551616 := by
  have h1 : (n / 2 &&& Pop.m0) ≤ Pop.m0 := Nat.and_le_right
  have h2 : (n &&& Pop.m0) ≤ Pop.m0 := Nat.and_le_right
  have hm : Pop.m0 = 6148914691236517205 := rfl
  have e : min (Int.toNat 1) 64 = 1 := by decide
  have c : (6148914691236517205 : Int) = ((Pop.m0 : Nat) : Int) := rfl
  refine ⟨?_, by unfold Pop.p1; omega⟩
  have h3 : (n / 2 ^ 1 &&& Pop.m0) ≤ Pop.m0 := Nat.and_le_right
  unfold s1I
  rw [e, fdivN, c, andN (by omega) (by omega), andN h (by omega), wrapN, wrapN, Nat.mod_eq_of_lt (by omega), Nat.mod_eq_of_lt (by omega)]
  rw [show (((n / 2 ^ 1 &&& Pop.m0 : Nat) : Int) + ((n &&& Pop.m0 : Nat) : Int)) = ((Pop.p1 n : Nat) : Int) by unfold Pop.p1; simp]
  rw [wrapN, Nat.mod_eq_of_lt (by unfold Pop.p1; omega)]
theorem s2I_eq {n : Nat} (h : n < 18446744073709551616) : s2I (n : Int) = ((Pop.p2 n : Nat) : Int) ∧ Pop.p2 n < 18446744073709551616 := by
  have h1 : (n / 4 &&& Pop.m1) ≤ Pop.m1 := Nat.and_le_right
  have h2 : (n &&& Pop.m1) ≤ Pop.m1 := Nat.and_le_right
  have hm : Pop.m1 = 3689348814741910323 := rfl
  have e : min (Int.toNat 2) 64 = 2 := by decide
  have c : (3689348814741910323 : Int) = ((Pop.m1 : Nat) : Int) := rfl
  refine ⟨?_, by unfold Pop.p2; omega⟩
  have h3 : (n / 2 ^ 2 &&& Pop.m1) ≤ Pop.m1 := Nat.and_le_right
  unfold s2I
  rw [e, fdivN, c, andN (by omega) (by omega), andN h (by omega), wrapN, wrapN, Nat.mod_eq_of_lt (by omega), Nat.mod_eq_of_lt (by omega)]
  rw [show (((n / 2 ^ 2 &&& Pop.m1 : Nat) : Int) + ((n &&& Pop.m1 : Nat) : Int)) = ((Pop.p2 n : Nat) : Int) by unfold Pop.p2; simp]
  rw [wrapN, Nat.mod_eq_of_lt (by unfold Pop.p2; omega)]
/-- without a carry out of the top -/
theorem s3I_eq {n : Nat} (h : n / 16 + n < 18446744073709551616) : s3I (n : Int) = ((Pop.p3 n : Nat) : Int) ∧ Pop.p3 n < 18446744073709551616 := by
  have h1 : ((n / 16 + n) &&& Pop.m2) ≤ Pop.m2 := Nat.and_le_right
  have hm : Pop.m2 = 1085102592571150095 := rfl
  have e : min (Int.toNat 4) 64 = 4 := by decide
  have c : (1085102592571150095 : Int) = ((Pop.m2 : Nat) : Int) := rfl
  refine ⟨?_, by unfold Pop.p3; omega⟩
  unfold s3I
  rw [e, fdivN, c]
  rw [show (((n / 2 ^ 4 : Nat) : Int) + (n : Int)) = ((n / 16 + n : Nat) : Int) by simp]
  rw [wrapN (n / 16 + n), Nat.mod_eq_of_lt h, andN h (by omega), wrapN, Nat.mod_eq_of_lt (by omega)]
  rfl
theorem ofInt_i64 (n : Nat) (h : n < 18446744073709551616) : BitVec.ofInt 64 (IntKind.i64.wrap (n : Int)) = BitVec.ofInt 64 (n : Int) := by
  have e : IntKind.i64.wrap (n : Int) = (if 9223372036854775808 ≤ (n : Int) % 18446744073709551616 then (n : Int) % 18446744073709551616 - 18446744073709551616 else (n : Int) % 18446744073709551616) := by simp [IntKind.wrap, IntKind.bits, IntKind.signed]
  rw [e]
  apply BitVec.eq_of_toNat_eq
  rw [BitVec.toNat_ofInt, BitVec.toNat_ofInt]
  congr 1
  split <;> omega
theorem s47 {z : Nat} (h : z < 18446744073709551616) : s7I (s6I (s5I (s4I (z : Int)))) = ((Pop.fin z : Nat) : Int) := by
  have e4 : min (Int.toNat 8) 64 = 8 := by decide
  have e5 : min (Int.toNat 16) 64 = 16 := by decide
  have e6 : min (Int.toNat 32) 64 = 32 := by decide
  have a4 : s4I (z : Int) = (((z + z / 256) % 18446744073709551616 : Nat) : Int) := by
    unfold s4I; rw [e4, fdivN, show ((z : Int) + ((z / 2 ^ 8 : Nat) : Int)) = ((z + z / 256 : Nat) : Int) by simp, wrapN]
  obtain ⟨a, ha⟩ : ∃ a, (z + z / 256) % 18446744073709551616 = a := ⟨_, rfl⟩
  rw [ha] at a4
  have a5 : s5I (a : Int) = (((a + a / 65536) % 18446744073709551616 : Nat) : Int) := by
    unfold s5I; rw [e5, fdivN, show ((a : Int) + ((a / 2 ^ 16 : Nat) : Int)) = ((a + a / 65536 : Nat) : Int) by simp, wrapN]
  obtain ⟨b, hb⟩ : ∃ b, (a + a / 65536) % 18446744073709551616 = b := ⟨_, rfl⟩
  rw [hb] at a5
  have a6 : s6I (b : Int) = (((b + b / 4294967296) % 18446744073709551616 : Nat) : Int) := by
    unfold s6I; rw [e6, fdivN, show ((b : Int) + ((b / 2 ^ 32 : Nat) : Int)) = ((b + b / 4294967296 : Nat) : Int) by simp, wrapN]
  obtain ⟨c, hc⟩ : ∃ c, (b + b / 4294967296) % 18446744073709551616 = c := ⟨_, rfl⟩
  rw [hc] at a6
  have hf : Pop.fin z = c % 128 := by simp only [Pop.fin, ha, hb, hc]
  rw [a4, a5, a6, hf]
  unfold s7I
  have c127 : (127 : Int) = ((2 ^ 7 - 1 : Nat) : Int) := rfl
  rw [ofInt_i64 c (by omega), c127, andN (by omega) (by decide), Nat.and_two_pow_sub_one_eq_mod, wrap_i64 (by omega) (by omega)]

theorem ones32 {n : Nat} (h : n < 18446744073709551616) (w : World) : callF Try.prog 32 #[.int .u64 (n : Int)] w = some (.int .i64 ((Pop.S (fun i => n / 2 ^ i % 2) 64 : Nat) : Int), w) := by
  refine g32_call ?_
  have e : g32 (n : Int) w = some (.int .i64 (s7I (s6I (s5I (s4I (s3I (s2I (s1I (n : Int)))))))), w) := rfl
  obtain ⟨a1, b1⟩ := s1I_eq h
  obtain ⟨a2, b2⟩ := s2I_eq b1
  have hlt : Pop.p2 (Pop.p1 n) / 16 + Pop.p2 (Pop.p1 n) < 18446744073709551616 := by
    have h1 : (Pop.p1 n / 4 &&& Pop.m1) ≤ Pop.m1 := Nat.and_le_right
    have h2 : (Pop.p1 n &&& Pop.m1) ≤ Pop.m1 := Nat.and_le_right
    have hm : Pop.m1 = 3689348814741910323 := rfl
    have : Pop.p2 (Pop.p1 n) ≤ 2 * 3689348814741910323 := by unfold Pop.p2; omega
    omega
  obtain ⟨a3, b3⟩ := s3I_eq hlt
  rw [e, a1, a2, a3, s47 b3, Pop.pop n h]
end Go.Proofs.Ytniibeofggdfoaa
