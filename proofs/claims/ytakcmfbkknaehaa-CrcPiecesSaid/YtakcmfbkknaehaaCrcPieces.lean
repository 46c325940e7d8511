/-
  CrcPieces: lemmas on what Go functions of this seat come to (for whatever arguments, as each says). No condition but those that stand in each lemma.
-/
import Derived.Test.YtakcmfbkknaehaaRs
import Derived.Test.YtakcmfbkknaehaaCrcH
namespace Go.Proofs.Ytakcmfbkknaehaa
open Go Go.Ev Go.Crc
set_option maxRecDepth 100000
set_option linter.unusedVariables false
set_option linter.unusedSimpArgs false
theorem CrcPieces_main (W : World) (x0 : (Ty.slice (.int .u8)).Val) (h0 : (Ty.slice (.int .u8)).At W [.slice x0.1.1 x0.1.2.1 x0.1.2.2] x0) (n1 : Int) (h1 : IntKind.u16.min ≤ n1 ∧ n1 ≤ IntKind.u16.max) (n2 : Int) (h2 : IntKind.u32.min ≤ n2 ∧ n2 ≤ IntKind.u32.max)
    (hs0 : Ty.Fits (.slice (.int .u8)) x0) :
    ∃ w', callF Try.prog 4 #[.slice x0.1.1 x0.1.2.1 x0.1.2.2, .int .u16 n1, .int .u32 n2] W = some (.bool true, w') ∧ Fr [] W w' := by
  replace h1 := u16_range h1
  replace h2 := u32_range h2
  have hlen : x0.2.length ≤ 140737488351232 := Fits.u8 hs0
  obtain ⟨hu, hz, hlt⟩ := slI_of_at h0
  have hcap : x0.1.2.1 ≤ x0.1.2.2 := h0.2.2.1
  replace hz := zs_of hz
  have hll := hu.1
  -- where it is cut
  have hk : ∃ j : Nat, j ≤ x0.2.length ∧ Int.tmod (IntKind.i64.wrap n1) (IntKind.i64.wrap ((x0.1.2.1 : Int) + 1)) = (j : Int) := by
    rw [wrap_i64 (by omega) (by omega), wrap_i64 (by omega) (by omega), Int.tmod_eq_emod_of_nonneg h1.1]
    have e1 := Int.emod_nonneg n1 (show ((x0.1.2.1 : Int) + 1) ≠ 0 by omega)
    have e2 := Int.emod_lt_of_pos n1 (show 0 < ((x0.1.2.1 : Int) + 1) by omega)
    exact ⟨(n1 % ((x0.1.2.1 : Int) + 1)).toNat, by omega, by omega⟩
  obtain ⟨j, hj, hjk⟩ := hk
  have hne : ¬ IntKind.i64.wrap ((x0.1.2.1 : Int) + 1) = 0 := by rw [wrap_i64 (by omega) (by omega)]; omega
  obtain ⟨qa, ea, ua, ba⟩ := slc_hi hu hj hcap
  obtain ⟨qb, eb, ub, bb⟩ := slc_lo hu hj hcap
  have za : Zs (x0.2.take j) := fun z hm => hz z (List.mem_of_mem_take hm)
  have zb : Zs (x0.2.drop j) := fun z hm => hz z (List.mem_of_mem_drop hm)
  have la : (x0.2.take j).length ≤ 140737488355000 := by rw [List.length_take]; omega
  have lb : (x0.2.drop j).length ≤ 140737488355000 := by rw [List.length_drop]; omega
  have na : ∀ y ∈ blkOf qa, 0 < (x0.2.take j).length → y < W.heap.size := fun y hy h => hlt y (ba y hy) (by rw [List.length_take] at h; omega)
  have nb : ∀ y ∈ blkOf qb, 0 < (x0.2.drop j).length → y < W.heap.size := fun y hy h => hlt y (bb y hy) (by rw [List.length_drop] at h; omega)
  obtain ⟨w1, e1, s1⟩ := St.new (W := W)
  obtain ⟨w2, e2, s2⟩ := (s1.step (Fr.drew _ _)).awake
  obtain ⟨q3, w3, e3, s3, o3, d3, _⟩ := s2.own ua la
  obtain ⟨w4, e4, s4, _⟩ := s3.sum o3.slI za (fun _ => d3) la
  obtain ⟨q5, w5, e5, s5, o5, d5, _⟩ := s4.own ub lb
  obtain ⟨w6, e6, s6, _⟩ := s5.more (more_range 0 (x0.2.take j)) o5.slI zb (fun _ => d5) lb
  obtain ⟨q7, w7, e7, s7, o7, d7, _⟩ := s6.own hu (by omega)
  obtain ⟨w8, e8, s8, _⟩ := s7.sum o7.slI hz (fun _ => d7) (by omega)
  obtain ⟨w9, e9, s9, _⟩ := s8.more h2 (ua.fr2 s8.fr (by simp)) za (s8.old na) la
  obtain ⟨w10, e10, s10, _⟩ := s9.more (more_range n2 (x0.2.take j)) (ub.fr2 s9.fr (by simp)) zb (s9.old nb) lb
  obtain ⟨w11, e11, s11, _⟩ := s10.more h2 (hu.fr2 s10.fr (by simp)) hz (s10.old hlt) (by omega)
  rw [more_append, List.take_append_drop] at e6 e10
  refine ⟨w11, g4_call ?_, s11.fr⟩
  unfold g4
  simp only [hjk, Option.bind_some, asP_pointer, asB_bool, asI_int, asS_string, asSl_slice, asM_map, asTup0, asTup1, asTup2, asTup3, asTup4, asTup5, getD0, getD1, getD2, getD3, getD4, Bool.not_true, Bool.not_false, Bool.false_eq_true, Bool.true_eq_false, ↓reduceIte, decide_true, decide_false, Option.isNone_some, Option.isNone_none, Option.isSome_some, Option.isSome_none, beq_self_eq_true, bne_self_eq_false, Bool.and_true, Bool.true_and, Bool.and_false, Bool.false_and, not_true_eq_false, not_false_eq_true]
  simp only [e1, hne, e2, ea, eb, e3, e4, e5, e6, e7, e8, e9, e10, e11, Option.bind_some, asP_pointer, asB_bool, asI_int, asS_string, asSl_slice, asM_map, asTup0, asTup1, asTup2, asTup3, asTup4, asTup5, getD0, getD1, getD2, getD3, getD4, Bool.not_true, Bool.not_false, Bool.false_eq_true, Bool.true_eq_false, ↓reduceIte, decide_true, decide_false, Option.isNone_some, Option.isNone_none, Option.isSome_some, Option.isSome_none, beq_self_eq_true, bne_self_eq_false, Bool.and_true, Bool.true_and, Bool.and_false, Bool.false_and, not_true_eq_false, not_false_eq_true]
end Go.Proofs.Ytakcmfbkknaehaa
