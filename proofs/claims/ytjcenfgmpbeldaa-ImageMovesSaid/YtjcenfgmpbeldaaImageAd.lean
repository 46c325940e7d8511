/-
  ImageAd: lemmas on what Go functions of this seat come to (for whatever arguments, as each says). No condition but those that stand in each lemma.
-/
import Derived.Test.YtjcenfgmpbeldaaRs
import Derived.Test.YtjcenfgmpbeldaaImageAc
import Derived.Test.YtjcenfgmpbeldaaImagePl
namespace Go.Proofs.Ytjcenfgmpbeldaa
open Go Go.Ev
set_option maxRecDepth 100000
set_option linter.unusedVariables false
set_option linter.unusedSimpArgs false

section
variable {w : World} {D : Nat → Prop} {b : Nat} {m : IM}

theorem img_node (h : Img w D b m) {n : Int} (hn : 0 ≤ n ∧ n < m.ns.length) : ∃ cm bk w', callF Try.prog 16 #[.pointer (some ⟨b, 0, none⟩), .int .i64 n] w = some (.tuple #[.bool (aliveB m.ns n), .int .i64 cm, .int .u64 bk], w') ∧ Fr [] w w' := by
  obtain ⟨c, nq, pq, es, h, hv⟩ := h
  obtain ⟨w', e, f⟩ := node16 h n
  have hnl : n.toNat < m.ns.length := by omega
  rw [dif_pos ⟨hn.1, hnl⟩] at e
  have hal : aliveB m.ns n = m.ns[n.toNat].al := by unfold aliveB; rw [List.getElem?_eq_getElem hnl]
  rw [← hal] at e
  exact ⟨_, _, w', e, f⟩

theorem img_part (h : Img w D b m) {k : Nat} (hk : k < m.vs.length) :
    ∃ qi qr qt w', callF Try.prog 15 #[.pointer (some ⟨b, 0, none⟩), .int .i64 (k : Int)] w = some (.tuple #[m.vs[k].arg qi qr qt, .bool true], w') ∧ Fr [] w w' ∧ Own w' 3 1 qi (intsV' m.vs[k].isr) ∧ Own w' 3 1 qr (intsV' m.vs[k].rep) ∧ Own w' 3 1 qt (intsV' m.vs[k].tgt) := by
  obtain ⟨c, nq, pq, es, h, hv⟩ := h
  have hk' : k < es.length := by rw [← hv] at hk; simpa using hk
  have hev : m.vs[k] = es[k].v := by simp [← hv]
  obtain ⟨qi, qr, qt, w', e, f, o1, o2, o3, _⟩ := part15 h hk'
  rw [hev]
  exact ⟨qi, qr, qt, w', e, f, o1, o2, o3⟩
end

abbrev CT : Ty := .cons (.int .i64) (.cons (.int .i64) (.cons (.int .i64) (.cons (.int .i64) (.cons (.int .i64) (.cons (.slice (.int .i64)) .nil)))))
def toC (x : CT.Val) : CV := ⟨x.1, x.2.1, x.2.2.1, x.2.2.2.1, x.2.2.2.2.1, x.2.2.2.2.2.1.2⟩
theorem mem_le_sum : ∀ {l : List Nat} {a : Nat}, a ∈ l → a ≤ l.sum
  | [], a, h => by simp at h
  | b :: l, a, h => by
    rcases List.mem_cons.mp h with rfl | h
    · simp
    · have := mem_le_sum h
      simp only [List.sum_cons]; omega
theorem len_bulk2 {k : IntKind} {x : (Ty.slice (.int k)).Val} : x.2.length ≤ (Ty.slice (.int k)).bulk x := by rw [bulk_int]; omega
theorem cmds_len {x : (Ty.slice CT).Val} (h : Ty.Fits (.slice CT) x) : x.2.length ≤ 2199023255488 := by
  have : x.2.length * 64 ≤ 140737488351232 := Fits.sl h
  omega
/-- a command of the script -/
theorem cmd_at {W w : World} {x0 : (Ty.slice CT).Val} (h0 : (Ty.slice CT).At W [.slice x0.1.1 x0.1.2.1 x0.1.2.2] x0) (hb : Ty.Fits (.slice CT) x0) (hF : Fr [] W w) {k : Nat} (hk : k < x0.2.length) :
    ∃ a, idxA x0.1.1 x0.1.2.1 6 (k : Int) = some a ∧ ldN w a 0 6 = some ((toC x0.2[k]).cs x0.2[k].2.2.2.2.2.1.1) ∧ SlI .i64 w x0.2[k].2.2.2.2.2.1.1 (toC x0.2[k]).ls ∧ (toC x0.2[k]).ls.length ≤ 17592186043904 := by
  have hold : Old W w := (Old.refl W).fr hF (by simp)
  obtain ⟨a, cs, i1, g1, g2, g3⟩ := slice_get (at_old hold _ _ _ h0) hk
  have hbk : Ty.Fits CT x0.2[k] := hb.2 _ (List.getElem_mem hk)
  obtain ⟨y, hy⟩ : ∃ y, x0.2[k] = y := ⟨_, rfl⟩
  rw [hy] at g3 hbk ⊢
  obtain ⟨c0, c1, c2, c3, c4, ⟨q, vs⟩, _⟩ := y
  obtain ⟨e1, d1, rfl, _, ⟨rfl, h1⟩, e2, d2, rfl, _, ⟨rfl, h2⟩, e3, d3, rfl, _, ⟨rfl, h3⟩, e4, d4, rfl, _, ⟨rfl, h4⟩, e5, d5, rfl, _, ⟨rfl, h5⟩, e6, d6, rfl, _, hs, rfl⟩ := g3
  obtain ⟨psl, prg, _⟩ := slI_of_at (x := (q, vs)) ⟨rfl, hs.2⟩
  have hbk' : vs.length * 8 ≤ 140737488351232 := hbk.2.2.2.2.2.1.1
  have hs6 := hs.1
  simp only at hs6
  subst hs6
  exact ⟨a, i1, g2.ldN (n := 6) rfl, psl, by show vs.length ≤ 17592186043904; omega⟩

theorem mi_new : MI 0 ⟨List.replicate 5 nv0, newParts 5 3 4, 1, 0⟩ := by
  have hs : ∀ k < 4, sortedI 5 (isort (onR 5 3 k)) := by
    intro k hk
    rw [sortedI_iff]
    have hp := isort_perm (onR 5 3 k)
    have hmem : ∀ x, x ∈ isort (onR 5 3 k) ↔ x ∈ onR 5 3 k := fun x => hp.mem_iff
    have hnd : (onR 5 3 k).Nodup := by
      match k, hk with
      | 0, _ => decide
      | 1, _ => decide
      | 2, _ => decide
      | 3, _ => decide
    refine ⟨?_, ?_, ?_⟩
    · intro he
      have := hp.length_eq
      rw [he] at this
      simp [onR] at this
    · intro y hy
      rw [hmem] at hy
      unfold onR at hy
      obtain ⟨i, _, rfl⟩ := List.mem_map.mp hy
      have := Nat.mod_lt (k + i) (show 0 < 5 by decide)
      omega
    · have h1 := isort_up (onR 5 3 k)
      have h2 : (isort (onR 5 3 k)).Nodup := hp.nodup_iff.mpr hnd
      have h3 := h1.and h2
      exact h3.imp (by intro a b ⟨h, hne⟩; omega)
  refine ⟨by simp, by simp [newParts], by decide, fun v hv => ?_⟩
  obtain ⟨k, hk, rfl⟩ := List.mem_map.mp hv
  have hk4 : k < 4 := by simpa using hk
  have hsk := hs k hk4
  refine ⟨⟨hsk, hsk, .inl rfl, fun n hn => .inl hn, (by show (0 : Int) ≤ 0 ∧ (0 : Int) ≤ 0; omega), (by show (0 : Int) ≤ 0 ∧ (0 : Int) ≤ 2 * 0; omega)⟩, (by show (-1 : Int) ≤ -1; omega), fun h0 => absurd h0 (by show ¬ (0 : Int) ≤ -1; omega), fun _ n hn => ?_⟩
  have := (sortedI_iff.mp hsk).2.1 n hn
  unfold aliveB
  rw [List.getElem?_replicate]
  split
  · rename_i x hx
    split at hx
    · cases hx; rfl
    · cases hx
  · rfl

end Go.Proofs.Ytjcenfgmpbeldaa
