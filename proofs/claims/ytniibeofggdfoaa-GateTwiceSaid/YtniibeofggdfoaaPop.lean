/-
  Pop: lemmas on what Go functions of this seat come to (for whatever arguments, as each says). No condition but those that stand in each lemma.
-/
import Derived.Test.YtniibeofggdfoaaLb6
namespace Go.Pop
open Go

def S (f : Nat → Nat) : Nat → Nat
  | 0 => 0
  | n + 1 => S f n + f n

theorem S_pair (f : Nat → Nat) : ∀ n, S f (2 * n) = S (fun i => f (2 * i) + f (2 * i + 1)) n
  | 0 => rfl
  | n + 1 => by
    have := S_pair f n
    rw [show 2 * (n + 1) = 2 * n + 1 + 1 by omega]
    simp only [S, this]; omega
theorem S_congr {f g : Nat → Nat} : ∀ n, (∀ i, i < n → f i = g i) → S f n = S g n
  | 0, _ => rfl
  | n + 1, h => by simp only [S]; rw [S_congr n fun i hi => h i (by omega), h n (by omega)]
theorem S_count (p : Nat → Bool) : ∀ n, S (fun i => if p i = true then 1 else 0) n = (List.range n).countP p
  | 0 => rfl
  | n + 1 => by
    simp only [S]
    rw [S_count p n, List.range_succ, List.countP_append]
    by_cases h : p n = true <;> simp [h]

theorem add_div_pow {a b B : Nat} (hB : 0 < B) (h : ∀ i, a / B ^ i % B + b / B ^ i % B < B) : ∀ i, (a + b) / B ^ i = a / B ^ i + b / B ^ i
  | 0 => by simp
  | i + 1 => by
    have := add_div_pow hB h i
    rw [Nat.pow_succ, ← Nat.div_div_eq_div_mul, this, Nat.add_div hB, if_neg (by have := h i; omega), Nat.add_zero, Nat.div_div_eq_div_mul, Nat.div_div_eq_div_mul]

theorem and_digit {j k M x i : Nat} (hkj : k ≤ j) (hM : M / 2 ^ (j * i) % 2 ^ j = 2 ^ k - 1) : (x &&& M) / 2 ^ (j * i) % 2 ^ j = x / 2 ^ (j * i) % 2 ^ k := by
  rw [Nat.and_div_two_pow, Nat.and_mod_two_pow, hM, Nat.and_two_pow_sub_one_eq_mod, Nat.mod_mod_of_dvd _ (Nat.pow_dvd_pow 2 hkj)]
theorem and_digit0 {j M x i : Nat} (hM : M / 2 ^ (j * i) % 2 ^ j = 0) : (x &&& M) / 2 ^ (j * i) % 2 ^ j = 0 := by
  rw [Nat.and_div_two_pow, Nat.and_mod_two_pow, hM, Nat.and_zero]

def m0 : Nat := 6148914691236517205
def m1 : Nat := 3689348814741910323
def m2 : Nat := 1085102592571150095
def p1 (x : Nat) : Nat := (x / 2 &&& m0) + (x &&& m0)
def p2 (x : Nat) : Nat := (x / 4 &&& m1) + (x &&& m1)
def p3 (x : Nat) : Nat := (x / 16 + x) &&& m2

theorem m0_lo : ∀ i, i < 32 → m0 / 2 ^ (2 * i) % 2 ^ 2 = 2 ^ 1 - 1 := by decide +kernel
theorem m1_lo : ∀ i, i < 16 → m1 / 2 ^ (4 * i) % 2 ^ 4 = 2 ^ 2 - 1 := by decide +kernel
theorem m2_lo : ∀ i, i < 8 → m2 / 2 ^ (8 * i) % 2 ^ 8 = 2 ^ 4 - 1 := by decide +kernel
theorem hi0 {m j i : Nat} (hm : m < 2 ^ 64) (h : 64 ≤ j * i) : m / 2 ^ (j * i) % 2 ^ j = 0 := by
  have : m / 2 ^ (j * i) = 0 := Nat.div_eq_of_lt (Nat.lt_of_lt_of_le hm (Nat.pow_le_pow_right (by omega) h))
  rw [this]; simp

theorem p1_digit (x i : Nat) : p1 x / 4 ^ i % 4 = (if i < 32 then x / 2 ^ (2 * i) % 2 + x / 2 ^ (2 * i + 1) % 2 else 0) := by
  have e4 : ∀ i, (4 : Nat) ^ i = 2 ^ (2 * i) := fun i => by rw [Nat.pow_mul]
  have hd : ∀ y i, (y &&& m0) / 4 ^ i % 4 = if i < 32 then y / 2 ^ (2 * i) % 2 else 0 := by
    intro y i
    rw [e4]
    split
    · rename_i h; exact and_digit (j := 2) (k := 1) (by omega) (m0_lo i h)
    · rename_i h; exact and_digit0 (j := 2) (hi0 (by decide) (by omega))
  have hc : ∀ i, (x / 2 &&& m0) / 4 ^ i % 4 + (x &&& m0) / 4 ^ i % 4 < 4 := by
    intro i
    rw [hd, hd]
    split <;> omega
  unfold p1
  rw [add_div_pow (by omega) hc, Nat.add_mod, Nat.mod_eq_of_lt (hc i), hd, hd]
  split
  · rw [Nat.div_div_eq_div_mul, show 2 * 2 ^ (2 * i) = 2 ^ (2 * i + 1) by rw [Nat.pow_succ]; omega]; omega
  · rfl

theorem p2_digit (x i : Nat) (hx : ∀ i, x / 4 ^ i % 4 ≤ 2) : p2 x / 16 ^ i % 16 = (if i < 16 then x / 4 ^ (2 * i) % 4 + x / 4 ^ (2 * i + 1) % 4 else 0) := by
  have e4 : ∀ i, (16 : Nat) ^ i = 2 ^ (4 * i) := fun i => by rw [Nat.pow_mul]
  have e2 : ∀ i, (4 : Nat) ^ i = 2 ^ (2 * i) := fun i => by rw [Nat.pow_mul]
  have hd : ∀ y i, (y &&& m1) / 16 ^ i % 16 = if i < 16 then y / 4 ^ (2 * i) % 4 else 0 := by
    intro y i
    rw [e4, e2]
    split
    · rename_i h
      have := and_digit (j := 4) (k := 2) (x := y) (by omega) (m1_lo i h)
      rw [show 2 * (2 * i) = 4 * i by omega]
      exact this
    · rename_i h; exact and_digit0 (j := 4) (hi0 (by decide) (by omega))
  have hs : ∀ i, x / 4 / 4 ^ i % 4 ≤ 2 := fun i => by
    rw [Nat.div_div_eq_div_mul, show 4 * 4 ^ i = 4 ^ (i + 1) by rw [Nat.pow_succ]; omega]; exact hx _
  have hc : ∀ i, (x / 4 &&& m1) / 16 ^ i % 16 + (x &&& m1) / 16 ^ i % 16 < 16 := by
    intro i
    rw [hd, hd]
    have h1 := hs (2 * i)
    have h2 := hx (2 * i)
    split <;> omega
  unfold p2
  rw [add_div_pow (by omega) hc, Nat.add_mod, Nat.mod_eq_of_lt (hc i), hd, hd]
  split
  · rw [Nat.div_div_eq_div_mul, show 4 * 4 ^ (2 * i) = 4 ^ (2 * i + 1) by rw [Nat.pow_succ]; omega]; omega
  · rfl

theorem p3_digit (x i : Nat) (hx : ∀ i, x / 16 ^ i % 16 ≤ 4) : p3 x / 256 ^ i % 256 = (if i < 8 then x / 16 ^ (2 * i) % 16 + x / 16 ^ (2 * i + 1) % 16 else 0) := by
  have e4 : ∀ i, (256 : Nat) ^ i = 2 ^ (8 * i) := fun i => by rw [Nat.pow_mul]
  have e2 : ∀ i, (16 : Nat) ^ i = 2 ^ (4 * i) := fun i => by rw [Nat.pow_mul]
  have hd : ∀ y i, (y &&& m2) / 256 ^ i % 256 = if i < 8 then y / 16 ^ (2 * i) % 16 else 0 := by
    intro y i
    rw [e4, e2]
    split
    · rename_i h
      have := and_digit (j := 8) (k := 4) (x := y) (by omega) (m2_lo i h)
      rw [show 4 * (2 * i) = 8 * i by omega]
      exact this
    · rename_i h; exact and_digit0 (j := 8) (hi0 (by decide) (by omega))
  have hs : ∀ i, x / 16 / 16 ^ i % 16 ≤ 4 := fun i => by
    rw [Nat.div_div_eq_div_mul, show 16 * 16 ^ i = 16 ^ (i + 1) by rw [Nat.pow_succ]; omega]; exact hx _
  have hc : ∀ i, x / 16 / 16 ^ i % 16 + x / 16 ^ i % 16 < 16 := by
    intro i
    have h1 := hs i
    have h2 := hx i
    omega
  unfold p3
  rw [hd]
  split
  · rw [add_div_pow (by omega) hc, Nat.add_mod, Nat.mod_eq_of_lt (hc _), Nat.div_div_eq_div_mul, show 16 * 16 ^ (2 * i) = 16 ^ (2 * i + 1) by rw [Nat.pow_succ]; omega]; omega
  · rfl

def fin (z : Nat) : Nat :=
  let a := (z + z / 256) % 18446744073709551616
  let b := (a + a / 65536) % 18446744073709551616
  let c := (b + b / 4294967296) % 18446744073709551616
  c % 128

theorem fin_sum (z : Nat) (hz : z < 18446744073709551616) (h : ∀ i, z / 256 ^ i % 256 ≤ 8) : fin z = S (fun i => z / 256 ^ i % 256) 8 := by
  have h0 := h 0; have h1 := h 1; have h2 := h 2; have h3 := h 3; have h4 := h 4; have h5 := h 5; have h6 := h 6; have h7 := h 7
  simp only [Nat.reducePow, Nat.div_one] at h0 h1 h2 h3 h4 h5 h6 h7
  simp only [S, fin, Nat.reducePow, Nat.div_one, Nat.zero_add]
  obtain ⟨u0, e0⟩ : ∃ u, z % 256 = u := ⟨_, rfl⟩
  obtain ⟨u1, e1⟩ : ∃ u, z / 256 % 256 = u := ⟨_, rfl⟩
  obtain ⟨u2, e2⟩ : ∃ u, z / 65536 % 256 = u := ⟨_, rfl⟩
  obtain ⟨u3, e3⟩ : ∃ u, z / 16777216 % 256 = u := ⟨_, rfl⟩
  obtain ⟨u4, e4⟩ : ∃ u, z / 4294967296 % 256 = u := ⟨_, rfl⟩
  obtain ⟨u5, e5⟩ : ∃ u, z / 1099511627776 % 256 = u := ⟨_, rfl⟩
  obtain ⟨u6, e6⟩ : ∃ u, z / 281474976710656 % 256 = u := ⟨_, rfl⟩
  obtain ⟨u7, e7⟩ : ∃ u, z / 72057594037927936 % 256 = u := ⟨_, rfl⟩
  rw [e0, e1, e2, e3, e4, e5, e6, e7]
  rw [e0] at h0; rw [e1] at h1; rw [e2] at h2; rw [e3] at h3; rw [e4] at h4; rw [e5] at h5; rw [e6] at h6; rw [e7] at h7
  have ez : z = u0 + 256 * u1 + 65536 * u2 + 16777216 * u3 + 4294967296 * u4 + 1099511627776 * u5 + 281474976710656 * u6 + 72057594037927936 * u7 := by omega
  clear e0 e1 e2 e3 e4 e5 e6 e7
  have d1 : z / 256 = u1 + 256 * u2 + 65536 * u3 + 16777216 * u4 + 4294967296 * u5 + 1099511627776 * u6 + 281474976710656 * u7 := by omega
  have a1 : (z + z / 256) % 18446744073709551616 = (u0 + u1) + 256 * (u1 + u2) + 65536 * (u2 + u3) + 16777216 * (u3 + u4) + 4294967296 * (u4 + u5) + 1099511627776 * (u5 + u6) + 281474976710656 * (u6 + u7) + 72057594037927936 * u7 := by
    rw [d1, ez]; omega
  rw [a1]
  obtain ⟨a, ha⟩ : ∃ a, (u0 + u1) + 256 * (u1 + u2) + 65536 * (u2 + u3) + 16777216 * (u3 + u4) + 4294967296 * (u4 + u5) + 1099511627776 * (u5 + u6) + 281474976710656 * (u6 + u7) + 72057594037927936 * u7 = a := ⟨_, rfl⟩
  rw [ha]
  have d2 : a / 65536 = (u2 + u3) + 256 * (u3 + u4) + 65536 * (u4 + u5) + 16777216 * (u5 + u6) + 4294967296 * (u6 + u7) + 1099511627776 * u7 := by omega
  have a2 : (a + a / 65536) % 18446744073709551616 = (u0 + u1 + u2 + u3) + 256 * (u1 + u2 + u3 + u4) + 65536 * (u2 + u3 + u4 + u5) + 16777216 * (u3 + u4 + u5 + u6) + 4294967296 * (u4 + u5 + u6 + u7) + 1099511627776 * (u5 + u6 + u7) + 281474976710656 * (u6 + u7) + 72057594037927936 * u7 := by
    rw [d2, ← ha]; omega
  rw [a2]
  clear ez d1 a1 ha d2 a2
  obtain ⟨b, hb⟩ : ∃ b, (u0 + u1 + u2 + u3) + 256 * (u1 + u2 + u3 + u4) + 65536 * (u2 + u3 + u4 + u5) + 16777216 * (u3 + u4 + u5 + u6) + 4294967296 * (u4 + u5 + u6 + u7) + 1099511627776 * (u5 + u6 + u7) + 281474976710656 * (u6 + u7) + 72057594037927936 * u7 = b := ⟨_, rfl⟩
  rw [hb]
  have d3 : b / 4294967296 = (u4 + u5 + u6 + u7) + 256 * (u5 + u6 + u7) + 65536 * (u6 + u7) + 16777216 * u7 := by omega
  rw [d3, ← hb]
  omega

/-- the number of bits that are set -/
theorem pop (x : Nat) (_hx : x < 18446744073709551616) : fin (p3 (p2 (p1 x))) = S (fun i => x / 2 ^ i % 2) 64 := by
  have h1 : ∀ i, p1 x / 4 ^ i % 4 ≤ 2 := fun i => by rw [p1_digit]; split <;> omega
  have h2 : ∀ i, p2 (p1 x) / 16 ^ i % 16 ≤ 4 := fun i => by
    rw [p2_digit _ _ h1]
    have a := h1 (2 * i); have b := h1 (2 * i + 1)
    split <;> omega
  have h3 : ∀ i, p3 (p2 (p1 x)) / 256 ^ i % 256 ≤ 8 := fun i => by
    rw [p3_digit _ _ h2]
    have a := h2 (2 * i); have b := h2 (2 * i + 1)
    split <;> omega
  have hz : p3 (p2 (p1 x)) < 18446744073709551616 := Nat.lt_of_le_of_lt Nat.and_le_right (by decide)
  rw [fin_sum _ hz h3, S_pair (fun i => x / 2 ^ i % 2) 32, S_pair _ 16, S_pair _ 8]
  apply S_congr
  intro i hi
  rw [p3_digit _ _ h2, if_pos hi, p2_digit _ _ h1, p2_digit _ _ h1, if_pos (by omega), if_pos (by omega), p1_digit, p1_digit, p1_digit, p1_digit, if_pos (by omega), if_pos (by omega), if_pos (by omega), if_pos (by omega)]
end Go.Pop
