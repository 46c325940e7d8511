/-
  FrameCrcX: lemmas on what Go functions of this seat come to (for whatever arguments, as each says). No condition but those that stand in each lemma.
-/
import Derived.Test.YteekaakkaogpeaaFrameCrcE
namespace Go.Proofs.Yteekaakkaogpeaa
open Go Go.Ev Go.Crc
set_option maxRecDepth 100000
set_option linter.unusedVariables false
set_option linter.unusedSimpArgs false
theorem u32_range {n : Int} (h : IntKind.u32.min ≤ n ∧ n ≤ IntKind.u32.max) : 0 ≤ n ∧ n < 4294967296 := by
  have h1 : IntKind.u32.min = 0 := by decide
  have h2 : IntKind.u32.max = 4294967295 := by decide
  rw [h1, h2] at h; omega

theorem bulk_len {x : (Ty.slice (.int .u8)).Val} {n : Nat} (h : (Ty.slice (.int .u8)).bulk x ≤ n) : x.2.length < n := by
  have : ∀ l : List Int, (l.map (Ty.int .u8).bulk).sum = l.length := by
    intro l; induction l with
    | nil => rfl
    | cons a l ih => rw [List.map_cons, List.sum_cons, ih]; simp [Ty.bulk]; omega
  have e : (Ty.slice (.int .u8)).bulk x = x.2.length + 1 := by rw [← this x.2]; rfl
  omega

theorem zs_of {zs : List Int} (h : ∀ z ∈ zs, IntKind.u8.min ≤ z ∧ z ≤ IntKind.u8.max) : Zs zs := fun z hz => u8_range (h z hz)

theorem more_range (s : Int) (zs : List Int) : 0 ≤ more s zs ∧ more s zs < 4294967296 := by
  unfold more
  have := (~~~ (run (~~~ (BitVec.ofInt 32 s)) zs)).isLt
  omega
theorem more_append (s : Int) (a b : List Int) : more (more s a) b = more s (a ++ b) := by
  unfold more
  rw [ofInt_toNat, BitVec.not_not]
  unfold run
  rw [List.foldl_append]

theorem step_inj {a b : BitVec 32} (h : Crc.step a = Crc.step b) : a = b := by
  have h31 : ∀ r : BitVec 32, (Crc.step r).getLsbD 31 = r.getLsbD 0 := by
    intro r
    unfold Go.Crc.step
    cases hr : r.getLsbD 0
    · rw [if_neg (by simp)]
      rw [BitVec.getLsbD_ushiftRight]
      exact BitVec.getLsbD_of_ge _ _ (by omega)
    · rw [if_pos rfl, BitVec.getLsbD_xor, BitVec.getLsbD_ushiftRight, BitVec.getLsbD_of_ge _ _ (by omega)]
      decide
  have h0 : a.getLsbD 0 = b.getLsbD 0 := by rw [← h31 a, ← h31 b, h]
  have hs : a >>> 1 = b >>> 1 := by
    unfold Go.Crc.step at h
    rw [h0] at h
    cases hb : b.getLsbD 0
    · rw [hb] at h; simpa using h
    · rw [hb] at h
      simp only [if_true] at h
      have := congrArg (· ^^^ poly) h
      simpa [BitVec.xor_assoc] using this
  apply BitVec.eq_of_getLsbD_eq
  intro i hi
  cases i with
  | zero => exact h0
  | succ i =>
    have := congrArg (fun v => v.getLsbD i) hs
    simp only [BitVec.getLsbD_ushiftRight] at this
    rwa [Nat.add_comm] at this

theorem stepN_inj : ∀ (n : Nat) {a b : BitVec 32}, stepN n a = stepN n b → a = b
  | 0, _, _, h => h
  | n + 1, _, _, h => step_inj (stepN_inj n h)

theorem run_inj : ∀ (zs : List Int) {a b : BitVec 32}, run a zs = run b zs → a = b
  | [], _, _, h => h
  | z :: zs, a, b, h => by
    have := run_inj zs (a := upd a (BitVec.ofInt 8 z)) (b := upd b (BitVec.ofInt 8 z)) h
    have h2 := stepN_inj 8 this
    have := congrArg (· ^^^ (BitVec.ofInt 8 z).setWidth 32) h2
    simpa [BitVec.xor_assoc] using this

/-- sums gone on with the same bytes are alike just where the sums were -/
theorem more_inj {s t : Int} (hs : 0 ≤ s ∧ s < 4294967296) (ht : 0 ≤ t ∧ t < 4294967296) (zs : List Int) : more s zs = more t zs ↔ s = t := by
  constructor
  · intro h
    unfold more at h
    have h1 : (~~~ (run (~~~ (BitVec.ofInt 32 s)) zs)) = ~~~ (run (~~~ (BitVec.ofInt 32 t)) zs) := BitVec.eq_of_toNat_eq (by omega)
    have h2 := run_inj zs (BitVec.not_inj.1 h1)
    have h3 := BitVec.not_inj.1 h2
    rw [w32_bv hs, w32_bv ht, h3]
  · rintro rfl; rfl

theorem info5 : ∃ i z, Try.prog.info? 5 = some i ∧ i.zero = some z ∧ i.size = 1 ∧ i.bytes = 1 ∧ z.cells.size = 1 := by
  have h : (Try.prog.info? 5).map (fun i => (i.zero, i.size, i.bytes)) = some (some (.int .u8 0), 1, 1) := by kernel_rfl
  cases h2 : Try.prog.info? 5 with
  | none => rw [h2] at h; cases h
  | some i =>
    rw [h2] at h
    simp only [Option.map_some, Option.some.injEq, Prod.mk.injEq] at h
    exact ⟨i, .int .u8 0, rfl, h.1, h.2.1, h.2.2, rfl⟩

/-- append of bytes to what may be written -/
theorem app8 {w : World} {v u : Option Addr × Nat × Nat} {xs zs : List Int} (h : Own w 5 1 v (xs.map (Value.int .u8))) (hu : Sl8 w u zs) (hl : xs.length + zs.length ≤ 140737488355328) (cs : Array Bool) :
    ∃ v' w', callB Try.prog .append #[22, 22] 22 cs #[.slice v.1 v.2.1 v.2.2, .slice u.1 u.2.1 u.2.2] w = some (.slice v'.1 v'.2.1 v'.2.2, w') ∧ Own w' 5 1 v' ((xs ++ zs).map (Value.int .u8)) ∧
      Fr (blkOf v) w w' ∧ (v'.1 = v.1 ∨ blkOf v' = [w.heap.size]) := by
  obtain ⟨i, z, hi, hz, h1, h2, h3⟩ := info5
  have hl1 := h.len
  simp only [List.length_map, Nat.mul_one] at hl1
  have hl2 := hu.1
  have hml : maxLen = 9223372036854775807 := by decide
  obtain ⟨v', w', e, _, o, f, hv⟩ := callB_append (P := Try.prog) (t := 22) (tx := 22) (ty := 22) (consts := cs) Try.underlying22 hi hz h1 h2 h3 (d := .slice 5) Try.underlying22 (by intro k hk; cases hk) h
    (x := .slice u.1 u.2.1 u.2.2) (m := u.2.1) (news := zs.map (Value.int .u8)) rfl (by simp [hl2])
    (fun w' hw' => by
      have := SlI.firstCells (P := Try.prog) (w' := w') hu (Nat.le_refl zs.length) hw'
      rw [List.take_length, hl2] at this
      exact this) (by simp) (by omega) (by omega)
  rw [← List.map_append] at o
  exact ⟨v', w', e, o, f, hv.imp (·.1) id⟩

end Go.Proofs.Yteekaakkaogpeaa
