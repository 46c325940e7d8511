/-
  CrcM: lemmas on what Go functions of this seat come to (for whatever arguments, as each says). No condition but those that stand in each lemma.
-/
import Derived.Test.YtnflklkjjjlpaaaLb2
namespace Go.Crc
open Go

def poly : BitVec 32 := 2197175160#32
def step (r : BitVec 32) : BitVec 32 := if r.getLsbD 0 = true then (r >>> 1) ^^^ poly else r >>> 1
def stepN : Nat → BitVec 32 → BitVec 32
  | 0, r => r
  | n + 1, r => stepN n (step r)
def upd (c : BitVec 32) (x : BitVec 8) : BitVec 32 := stepN 8 (c ^^^ x.setWidth 32)
def run (c : BitVec 32) (zs : List Int) : BitVec 32 := zs.foldl (fun c z => upd c (BitVec.ofInt 8 z)) c
def more (s : Int) (zs : List Int) : Int := ((~~~ (run (~~~ (BitVec.ofInt 32 s)) zs)).toNat : Nat)
def tab (i : Nat) : Int := ((stepN 8 (BitVec.ofNat 32 i)).toNat : Nat)

theorem step_xor (a b : BitVec 32) : step (a ^^^ b) = step a ^^^ step b := by
  unfold step
  simp only [BitVec.getLsbD_xor, BitVec.ushiftRight_xor_distrib]
  cases a.getLsbD 0 <;> cases b.getLsbD 0 <;> simp
  · ac_rfl
  · ac_rfl
  · have : a >>> 1 ^^^ poly ^^^ (b >>> 1 ^^^ poly) = a >>> 1 ^^^ b >>> 1 ^^^ (poly ^^^ poly) := by ac_rfl
    rw [this]; simp

theorem stepN_xor : ∀ (n : Nat) (a b : BitVec 32), stepN n (a ^^^ b) = stepN n a ^^^ stepN n b
  | 0, _, _ => rfl
  | n + 1, a, b => by simp only [stepN, step_xor, stepN_xor n]

theorem stepN_succ' : ∀ (n : Nat) (a : BitVec 32), stepN (n + 1) a = step (stepN n a)
  | 0, _ => rfl
  | n + 1, a => by
    have := stepN_succ' n (step a)
    simp only [stepN] at this ⊢; exact this

theorem step_even {a : BitVec 32} (h : a.getLsbD 0 = false) : step a = a >>> 1 := by
  unfold step
  rw [h]; rfl

theorem stepN_low : ∀ (n : Nat) (a : BitVec 32), (∀ i, i < n → a.getLsbD i = false) → stepN n a = a >>> n
  | 0, a, _ => by simp [stepN]
  | n + 1, a, h => by
    rw [stepN, step_even (h 0 (by omega)), stepN_low n _ (fun i hi => by rw [BitVec.getLsbD_ushiftRight]; exact h _ (by omega))]
    apply BitVec.eq_of_getLsbD_eq
    intro i hi
    simp only [BitVec.getLsbD_ushiftRight]
    congr 1; omega

/-- the table's way -/
theorem upd_tab (c : BitVec 32) (x : BitVec 8) : upd c x = stepN 8 ((c.setWidth 8 ^^^ x).setWidth 32) ^^^ c >>> 8 := by
  have h1 : stepN 8 (c ^^^ (c.setWidth 8).setWidth 32) = c >>> 8 := by
    rw [stepN_low]
    · apply BitVec.eq_of_getLsbD_eq
      intro i hi
      simp [BitVec.getLsbD_ushiftRight, BitVec.getLsbD_xor, BitVec.getLsbD_setWidth]
    · intro i hi
      have : i < 32 := by omega
      simp [hi, this]
  rw [← h1, ← stepN_xor]
  unfold upd
  congr 1
  apply BitVec.eq_of_getLsbD_eq
  intro i hi
  simp only [BitVec.getLsbD_xor, BitVec.getLsbD_setWidth]
  by_cases h8 : i < 8
  · simp [h8, hi]
  · have h9 : x.getLsbD i = false := BitVec.getLsbD_of_ge _ _ (by omega)
    simp [h8, h9]

/-- bit by bit -/
def bitStep (r : BitVec 32) (b : Bool) : BitVec 32 := if (r.getLsbD 0 ^^ b) = true then (r >>> 1) ^^^ poly else r >>> 1

theorem bitStep_eq (r x : BitVec 32) : bitStep r (x.getLsbD 0) ^^^ x >>> 1 = step (r ^^^ x) := by
  unfold bitStep step
  simp only [BitVec.getLsbD_xor, BitVec.ushiftRight_xor_distrib]
  split
  · ac_rfl
  · rfl

/-! ## numbers -/
theorem wrap32 (v : BitVec 32) : IntKind.u32.wrap ((v.toNat : Nat) : Int) = ((v.toNat : Nat) : Int) := by
  have e : IntKind.u32.wrap ((v.toNat : Nat) : Int) = ((v.toNat : Nat) : Int) % 4294967296 := by simp [IntKind.wrap, IntKind.bits, IntKind.signed]
  rw [e]; have := v.isLt; omega
theorem wrap8 (v : BitVec 8) : IntKind.u8.wrap ((v.toNat : Nat) : Int) = ((v.toNat : Nat) : Int) := by
  have e : IntKind.u8.wrap ((v.toNat : Nat) : Int) = ((v.toNat : Nat) : Int) % 256 := by simp [IntKind.wrap, IntKind.bits, IntKind.signed]
  rw [e]; have := v.isLt; omega
theorem wrap8_32 (v : BitVec 32) : IntKind.u8.wrap ((v.toNat : Nat) : Int) = (((v.setWidth 8).toNat : Nat) : Int) := by
  have e : IntKind.u8.wrap ((v.toNat : Nat) : Int) = ((v.toNat : Nat) : Int) % 256 := by simp [IntKind.wrap, IntKind.bits, IntKind.signed]
  rw [e]; simp
theorem ofInt_toNat {n : Nat} (v : BitVec n) : BitVec.ofInt n ((v.toNat : Nat) : Int) = v := by
  rw [BitVec.ofInt_natCast, BitVec.ofNat_toNat, BitVec.setWidth_eq]
theorem fdiv_shr {n : Nat} (v : BitVec n) (k : Nat) : Int.fdiv ((v.toNat : Nat) : Int) (2 ^ k) = (((v >>> k).toNat : Nat) : Int) := by
  rw [BitVec.toNat_ushiftRight, Nat.shiftRight_eq_div_pow]
  have : ((2 : Int) ^ k) = ((2 ^ k : Nat) : Int) := by simp
  rw [this, Int.fdiv_eq_ediv_of_nonneg _ (Int.natCast_nonneg _)]
  rfl
theorem ones32 (x : BitVec 32) : BitVec.ofInt 32 IntKind.u32.max ^^^ x = ~~~ x := by
  have : BitVec.ofInt 32 IntKind.u32.max = BitVec.allOnes 32 := by decide
  rw [this, BitVec.allOnes_xor]

theorem bit0 (v : BitVec 32) : IntKind.u32.wrap (((v &&& BitVec.ofInt 32 1).toNat : Nat) : Int) = if v.getLsbD 0 = true then 1 else 0 := by
  rw [wrap32]
  have e : BitVec.ofInt 32 1 = 1#32 := by decide
  rw [e, BitVec.toNat_and]
  have e2 : (1#32).toNat = 1 := rfl
  rw [e2, Nat.and_one_is_mod]
  have e3 : v.getLsbD 0 = decide (v.toNat % 2 = 1) := by rw [BitVec.getLsbD, Nat.testBit_zero]
  rw [e3]
  by_cases h : v.toNat % 2 = 1
  · simp [h]
  · have : v.toNat % 2 = 0 := by omega
    simp [this]

theorem outbit (a b : Bool) : (IntKind.u32.wrap (((BitVec.ofInt 32 (if a = true then 1 else 0) ^^^ BitVec.ofInt 32 (if b = true then 1 else 0)).toNat : Nat) : Int) == 1) = (a ^^ b) := by
  cases a <;> cases b <;> decide

theorem inbit (x : BitVec 8) (k : Nat) : IntKind.u32.wrap (((BitVec.ofInt 32 (IntKind.u32.wrap (Int.fdiv ((x.toNat : Nat) : Int) (2 ^ k))) &&& BitVec.ofInt 32 1).toNat : Nat) : Int) = if x.getLsbD k = true then 1 else 0 := by
  have h1 : Int.fdiv ((x.toNat : Nat) : Int) (2 ^ k) = (((x >>> k).setWidth 32).toNat : Nat) := by
    rw [fdiv_shr]
    have := (x >>> k).isLt
    simp only [BitVec.toNat_setWidth]
    congr 1
    omega
  rw [h1, wrap32 (BitVec.setWidth 32 (x >>> k)), ofInt_toNat, bit0]
  have : ((x >>> k).setWidth 32).getLsbD 0 = x.getLsbD k := by
    simp only [BitVec.getLsbD_setWidth, BitVec.getLsbD_ushiftRight]
    simp
  rw [this]
end Go.Crc
