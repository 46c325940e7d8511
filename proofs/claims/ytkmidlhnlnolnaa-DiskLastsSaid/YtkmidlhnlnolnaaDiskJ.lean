/-
  DiskJ: lemmas on what Go functions of this seat come to (for whatever arguments, as each says). No condition but those that stand in each lemma.
-/
import Derived.Test.YtkmidlhnlnolnaaDiskI
import Derived.Test.YtkmidlhnlnolnaaDiskF2
import Derived.Lib.SlBytesConst
import Derived.Laws.IdiomStrings
import Derived.Laws.BytesArg
namespace Go.Proofs.Ytkmidlhnlnolnaa
open Go Go.Ev
set_option maxRecDepth 100000
set_option linter.unusedVariables false
set_option linter.unusedSimpArgs false

/-- bytes as a text -/
def ofB (zs : List Int) : ByteArray := ⟨(zs.map fun z => UInt8.ofNat z.toNat).toArray⟩

theorem conv_str {w : World} {q : Option Addr × Nat × Nat} {zs : List Int} (h : Sl8 w q zs) (hz : Zs zs) : semR Try.prog (convert 28 9 (.slice q.1 q.2.1 q.2.2)) w = some (.string (ofB zs), w) := by
  have hl := h.1
  cases ha : q.1 with
  | none =>
    have h0 : zs.length = 0 := by
      rcases Nat.eq_zero_or_pos q.2.1 with h0 | h0
      · rw [hl, h0]
      · obtain ⟨b, off, h1, _⟩ := h.2 h0
        rw [ha] at h1; cases h1
    have hzs : zs = [] := List.eq_nil_of_length_eq_zero h0
    subst hzs
    have := run_convert_bytes_nil (P := Try.prog) (w := w) 28 5 Try.underlying28 (by kernel_rfl) q.2.1 q.2.2 9 (by kernel_rfl)
    unfold semR
    rw [this]; rfl
  | some a =>
    have hlen : (zs.map fun z => UInt8.ofNat z.toNat).length = q.2.1 := by simp [hl]
    have := run_convert_bytes_back (P := Try.prog) w 28 9 5 a q.2.2 (zs.map fun z => UInt8.ofNat z.toNat) Try.underlying28 (by kernel_rfl) (by kernel_rfl) (fun j hj => by
      simp only [List.length_map] at hj
      obtain ⟨b, off, h1, _, h3⟩ := h.2 (by omega)
      rw [ha] at h1
      obtain rfl : a = ⟨b, off, none⟩ := by simpa using h1
      rw [addr_add, h3 j hj]
      have hzj := hz _ (List.getElem_mem hj)
      simp only [List.getElem_map]
      congr 2
      rw [show (UInt8.ofNat zs[j].toNat).toNat = zs[j].toNat % 256 from rfl, Nat.mod_eq_of_lt (by omega)]; omega)
    unfold semR
    rw [hlen] at this
    rw [this]; rfl

/-- a text that stands in the code, as bytes -/
theorem conv_lit (w : World) (cs : List Int) : ∃ w', semR Try.prog (convert 28 28 (.slice (some ⟨w.heap.size, 0, none⟩) cs.length cs.length)) (w.alloc (.cells (cs.map (Value.int .u8)).toArray 5)) = some (.slice (some ⟨w.heap.size, 0, none⟩) cs.length cs.length, w') ∧
    Sl8 w' (some ⟨w.heap.size, 0, none⟩, cs.length, cs.length) cs ∧ Fr [] w w' ∧ w'.heap.size = w.heap.size + 1 := by
  have hc := Go.Lib.run_convert_bytes_const (P := Try.prog) w 28 5 (cs.map (Value.int .u8)).toArray cs.length cs.length Try.underlying28 (by kernel_rfl)
  refine ⟨w.alloc (.cells (cs.map (Value.int .u8)).toArray 5 ((cs.map (Value.int .u8)).toArray.size, (cs.map (Value.int .u8)).toArray.size + 1)), by unfold semR; rw [hc], ⟨rfl, fun _ => ⟨w.heap.size, 0, rfl, ?_, fun i hi => ?_⟩⟩, Fr.alloc _, Array.size_push _⟩
  · exact lt_of_blk (alloc_blk_new _)
  · rw [cell_blk (alloc_blk_new _)]
    simp [hi]

section
variable {w : World}

theorem awake9 : ∃ w', callF Try.prog 9 #[] w = some (.bool true, w') ∧ Fr [] w w' := by
  obtain ⟨w1, D1, e1, d1, f1, n1⟩ := new8 w
  obtain ⟨w2, e2, s2, f2, z2⟩ := conv_lit w1 [120, 121, 122]
  have d2 := d1.fr f2 (by simp)
  obtain ⟨w3, D3, e3, d3, c3⟩ := append10 d2 ⟨#[97]⟩ s2 (by unfold Zs; decide) (Nat.le_refl _) (fun _ y hy hm => by simp [blkOf] at hy; have := d1.lt y hm; omega) (by decide)
  have a3 : appA [] (-1) false ⟨#[97]⟩ [120, 121, 122] = (0, [(⟨#[97]⟩, [120, 121, 122], 0)], -1, false) := by decide +kernel
  rw [a3] at e3 d3
  obtain ⟨w4, e4, d4, c4⟩ := sync13 d3 ⟨#[97]⟩
  have a4 : syncA [(⟨#[97]⟩, [120, 121, 122], 0)] false ⟨#[97]⟩ = (0, [(⟨#[97]⟩, [120, 121, 122], 3)]) := by decide +kernel
  rw [a4] at e4 d4
  obtain ⟨w5, e5, s5, f5, z5⟩ := conv_lit w4 [117, 118, 119]
  have d5 := d4.fr f5 (by simp)
  obtain ⟨w6, D6, e6, d6, c6⟩ := append10 d5 ⟨#[97]⟩ s5 (by unfold Zs; decide) (Nat.le_refl _) (fun _ y hy hm => by simp [blkOf] at hy; have := d4.lt y hm; omega) (by decide)
  have a6 : appA [(⟨#[97]⟩, [120, 121, 122], 3)] (-1) false ⟨#[97]⟩ [117, 118, 119] = (0, [(⟨#[97]⟩, [120, 121, 122, 117, 118, 119], 3)], -1, false) := by decide +kernel
  rw [a6] at e6 d6
  obtain ⟨w7, e7, d7, c7⟩ := crash14 d6 (keep := 2) (by decide)
  have a7 : crashA 2 [(⟨#[97]⟩, [120, 121, 122, 117, 118, 119], 3)] = [(⟨#[97]⟩, [120, 121, 122, 117, 118], 5)] := by decide +kernel
  rw [a7] at d7
  obtain ⟨q8, w8, e8, o8, f8, h8, z8, _⟩ := read15 d7 ⟨#[97]⟩
  have a8 : readA [(⟨#[97]⟩, [120, 121, 122, 117, 118], 5)] false ⟨#[97]⟩ = ([120, 121, 122, 117, 118], 0) := by decide +kernel
  rw [a8] at e8 o8 z8
  have e9 := conv_str o8.slI z8
  have a9 : ofB [120, 121, 122, 117, 118] = ⟨#[120, 121, 122, 117, 118]⟩ := by decide +kernel
  have a10 : ((ofB [120, 121, 122, 117, 118]).toList == (⟨#[120, 121, 122, 117, 118]⟩ : ByteArray).toList) = true := by rw [str_eq, a9]; simp
  refine ⟨w8, g9_call ?_, ?_⟩
  · have h00 : ((0 : Int) != 0) = false := by decide
    have h01 : ((0 : Int) == 0) = true := by decide
    change semR Try.prog (convert 28 28 (.slice (some ⟨w1.heap.size, 0, none⟩) 3 3)) (w1.alloc (.cells #[.int .u8 120, .int .u8 121, .int .u8 122] 5)) = some (.slice (some ⟨w1.heap.size, 0, none⟩) 3 3, w2) at e2
    change semR Try.prog (convert 28 28 (.slice (some ⟨w4.heap.size, 0, none⟩) 3 3)) (w4.alloc (.cells #[.int .u8 117, .int .u8 118, .int .u8 119] 5)) = some (.slice (some ⟨w4.heap.size, 0, none⟩) 3 3, w5) at e5
    unfold g9
    simp only [e1, e2, obs, asP_pointer, asB_bool, asI_int, asS_string, asSl_slice, asM_map, asTup0, asTup1, asTup2, asTup3, asTup4, asTup5, asTup6, asTup7, asTup8, asTup9, asAgg2, asAgg3, asAgg4, asAgg5, asAgg6, asAgg7, asAgg8, asAgg9, asAgg12, getD0, getD1, getD2, getD3, getD4, getD5, getD6, getD7, getD8, getD9, getD10, getD11, getD12, getD13, getD14, getD15, getD16, getD17, getD18, getD19, Bool.not_true, Bool.not_false, Bool.false_eq_true, Bool.true_eq_false, ↓reduceIte, decide_true, decide_false, Option.isNone_some, Option.isNone_none, Option.isSome_some, Option.isSome_none, beq_self_eq_true, bne_self_eq_false, Bool.and_true, Bool.true_and, Bool.and_false, Bool.false_and, not_true_eq_false, not_false_eq_true]
    simp only [List.length_cons, List.length_nil] at e3 e6
    simp only [e3, h00, e4, e5, e6, e7, e8, h01, e9, a10, obs, asP_pointer, asB_bool, asI_int, asS_string, asSl_slice, asM_map, asTup0, asTup1, asTup2, asTup3, asTup4, asTup5, asTup6, asTup7, asTup8, asTup9, asAgg2, asAgg3, asAgg4, asAgg5, asAgg6, asAgg7, asAgg8, asAgg9, asAgg12, getD0, getD1, getD2, getD3, getD4, getD5, getD6, getD7, getD8, getD9, getD10, getD11, getD12, getD13, getD14, getD15, getD16, getD17, getD18, getD19, Bool.not_true, Bool.not_false, Bool.false_eq_true, Bool.true_eq_false, ↓reduceIte, decide_true, decide_false, Option.isNone_some, Option.isNone_none, Option.isSome_some, Option.isSome_none, beq_self_eq_true, bne_self_eq_false, Bool.and_true, Bool.true_and, Bool.and_false, Bool.false_and, not_true_eq_false, not_false_eq_true]
  · obtain ⟨S3, g3, q3⟩ := c3.fr
    obtain ⟨S4, g4, q4⟩ := c4.fr
    obtain ⟨S6, g6, q6⟩ := c6.fr
    obtain ⟨S7, g7, q7⟩ := c7.fr
    have n3 := c3.new
    have n6 := c6.new
    have hD3 : ∀ y, D3 y → w.heap.size ≤ y := by
      intro y hy
      rcases n3 y hy with hh | hh
      · exact n1 y hh
      · have := f1.size; have := f2.size; omega
    have hD6 : ∀ y, D6 y → w.heap.size ≤ y := by
      intro y hy
      rcases n6 y hy with hh | hh
      · exact hD3 y hh
      · have := f1.size; have := f2.size; have := g3.size; have := g4.size; have := f5.size; omega
    exact (Fr.mono (Fr.app (Fr.app (Fr.app (Fr.app (Fr.app (Fr.app (Fr.app f1 f2) g3) g4) f5) g6) g7) f8) (by have z0_ := Fr.size f1; have z1_ := Fr.size f2; have z2_ := Fr.size g3; have z3_ := Fr.size g4; have z4_ := Fr.size f5; have z5_ := Fr.size g6; have z6_ := Fr.size g7; have z7_ := Fr.size f8; intro y_ hy_ hl_; grind [blkOf]))
end
end Go.Proofs.Ytkmidlhnlnolnaa
