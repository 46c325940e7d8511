/-
  CrcH: lemmas on what Go functions of this seat come to (for whatever arguments, as each says). No condition but those that stand in each lemma.
-/
import Derived.Test.YtakcmfbkknaehaaCrcG
namespace Go.Proofs.Ytakcmfbkknaehaa
open Go Go.Ev Go.Crc
set_option maxRecDepth 100000
set_option linter.unusedVariables false
set_option linter.unusedSimpArgs false

/-- where a table stands, and all else is as it was -/
structure St (W : World) (b : Nat) (w : World) : Prop where
  fr : Fr [] W w
  tb : Tbl w b
  hb : W.heap.size ≤ b

section
variable {W w : World} {b : Nat}
theorem St.new : ∃ w', callF Try.prog 9 #[] W = some (.pointer (some ⟨W.heap.size, 0, none⟩), w') ∧ St W W.heap.size w' := by
  obtain ⟨w', e, t, f⟩ := new9 (w := W)
  exact ⟨w', e, f, t, Nat.le_refl _⟩
theorem St.step (h : St W b w) {w' : World} (f : Fr [] w w') : St W b w' := ⟨h.fr.trans f, h.tb.fr f (by simp), h.hb⟩
theorem St.stepB (h : St W b w) {w' : World} (f : Fr [b] w w') (t : Tbl w' b) : St W b w' :=
  ⟨(h.fr.nil.trans f).mono (by intro y hy hlt; simp at hy; have := h.hb; omega), t, h.hb⟩
theorem St.own (h : St W b w) {u : Option Addr × Nat × Nat} {zs : List Int} (hu : Sl8 W u zs) (hl : zs.length ≤ 140737488355000) :
    ∃ q w', callF Try.prog 11 #[.slice u.1 u.2.1 u.2.2] w = some (.slice q.1 q.2.1 q.2.2, w') ∧ St W b w' ∧ Own w' 5 1 q (zs.map (Value.int .u8)) ∧ b ∉ blkOf q ∧ blkOf q = [w.heap.size] ∧ Fr [] w w' := by
  obtain ⟨q, w', e, o, hq, hlt, f⟩ := own11 (hu.fr2 h.fr (by simp)) hl
  exact ⟨q, w', e, h.step f, o, by rw [hq]; have := h.tb.lt; simp; omega, hq, f⟩
theorem St.more (h : St W b w) {s : Int} {q : Option Addr × Nat × Nat} {zs : List Int} (hs : 0 ≤ s ∧ s < 4294967296) (hu : Sl8 w q zs) (hz : Zs zs) (hd : 0 < zs.length → b ∉ blkOf q) (hl : zs.length ≤ 140737488355000) :
    ∃ w', callF Try.prog 14 #[.pointer (some ⟨b, 0, none⟩), .int .u32 s, .slice q.1 q.2.1 q.2.2] w = some (.int .u32 (Crc.more s zs), w') ∧ St W b w' ∧ Fr [b] w w' := by
  obtain ⟨w', e, t, f⟩ := more14 h.tb hs hu hz hd (by omega)
  exact ⟨w', e, h.stepB f (.inr t), f⟩
theorem St.sum (h : St W b w) {q : Option Addr × Nat × Nat} {zs : List Int} (hu : Sl8 w q zs) (hz : Zs zs) (hd : 0 < zs.length → b ∉ blkOf q) (hl : zs.length ≤ 140737488355000) :
    ∃ w', callF Try.prog 13 #[.pointer (some ⟨b, 0, none⟩), .slice q.1 q.2.1 q.2.2] w = some (.int .u32 (Crc.more 0 zs), w') ∧ St W b w' ∧ Fr [b] w w' := by
  obtain ⟨w', e, t, f⟩ := sum13 h.tb hu hz hd (by omega)
  exact ⟨w', e, h.stepB f (.inr t), f⟩
theorem St.awake (h : St W b w) : ∃ w', callF Try.prog 10 #[] w = some (.bool true, w') ∧ St W b w' := by
  obtain ⟨w', e, f⟩ := awake10 (w := w)
  exact ⟨w', e, h.step f⟩
/-- what came in lies ahead of the table -/
theorem St.old (h : St W b w) {u : Option Addr × Nat × Nat} {zs : List Int} (hlt : ∀ y ∈ blkOf u, 0 < zs.length → y < W.heap.size) : 0 < zs.length → b ∉ blkOf u := fun h0 hm => by
  have := hlt b hm h0; have := h.hb; omega
end

theorem more_range (s : Int) (zs : List Int) : 0 ≤ more s zs ∧ more s zs < 4294967296 := by
  unfold more
  have := (~~~ (run (~~~ (BitVec.ofInt 32 s)) zs)).isLt
  omega
theorem more_append (s : Int) (a b : List Int) : more (more s a) b = more s (a ++ b) := by
  unfold more
  rw [ofInt_toNat, BitVec.not_not]
  unfold run
  rw [List.foldl_append]

theorem u16_range {n : Int} (h : IntKind.u16.min ≤ n ∧ n ≤ IntKind.u16.max) : 0 ≤ n ∧ n < 65536 := by
  have h1 : IntKind.u16.min = 0 := by decide
  have h2 : IntKind.u16.max = 65535 := by decide
  rw [h1, h2] at h; omega
end Go.Proofs.Ytakcmfbkknaehaa
