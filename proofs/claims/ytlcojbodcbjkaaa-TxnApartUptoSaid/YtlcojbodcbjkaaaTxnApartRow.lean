/-
  The law TxnApart, the second form: for every input the call returns true, and each argument reads afterwards as it read before. The condition is the form's own: what comes in is of bulk at most 1048576.
-/
import Derived.Test.YtlcojbodcbjkaaaRows
import Derived.WalkKit
import Derived.ProofKit
import Derived.OpenShut
import Derived.ShutString
import Derived.ChangeOld
import Derived.Below
import Derived.JoinedCond
import Derived.Test.YtlcojbodcbjkaaaTxnApart
import Derived.Test.YtlcojbodcbjkaaaRd
namespace Go.Proofs.Ytlcojbodcbjkaaa.txnApart
open Go.ChangeShapes Go.WideShapes Go.ChangeAt Go.RowKit
open Go.ChangeMaps (open_string shut_string)
set_option linter.unusedVariables false
set_option linter.unusedSimpArgs false

theorem own : ownKnob Try.prog.godebug = none := by kernel_rfl
theorem laidOut : laidOutB Try.prog = true := by kernel_rfl

theorem bulks {H : Type} : ∀ l : List (DataW H), Rows.uptoBulkAll l = Go.Ev.dBulks Rows.uptoBulk l
  | [] => rfl
  | d :: r => by simp only [Rows.uptoBulkAll, Go.Ev.dBulks, bulks r]

theorem counts {H : Type} : Go.Ev.Counts (H := H) Rows.uptoBulk where
  lit l := by cases l <;> simp [Rows.uptoBulk]
  str bs := by simp [Rows.uptoBulk]
  slice es sp := by simp only [Rows.uptoBulk, bulks]; omega
  agg ps := by simp only [Rows.uptoBulk, bulks]; omega
  nil := by simp [Rows.uptoBulk]

set_option maxRecDepth 100000 in
set_option maxHeartbeats 1000000 in
theorem lifted (os : Os) (started : os.Started) (H : Type) (enc : TypeId × Value → H) (F : Stop.Interp) :
    ReturnsInHanded {} Try.checked os 7 .any ((Rows.OpenSpec.upto Rows.txnApartSpec).pre6 enc Try.prog Try.f7 Rows.txnApartUptoRow.domain false) (((Rows.OpenSpec.upto Rows.txnApartSpec).at F).post enc Try.prog Try.f7 false true false false) := by
  refine returnsInHanded_of_cond (C := Try.checked) (s := Rows.OpenSpec.upto Rows.txnApartSpec) (k := Rows.uptoSmall) rfl own started (by kernel_rfl) Try.func7
    (OpenSpec.witness (enc := enc) (C := Try.checked) (s := Rows.OpenSpec.upto Rows.txnApartSpec) (k := Rows.uptoSmall) rfl false ⟨#[], #[.slice none 0 0, .slice none 0 0], []⟩ 8 (by kernel_rfl) (by kernel_rfl) (by kernel_rfl)
      (x := ([.nil, .nil], [], [])) (by kernel_rfl) rfl (by kernel_rfl)) ?_
  intro W base args ds gs before hval0 hW hcnd hk _
  have hval : ∀ (j : Nat) t v, Try.f7.params[j]? = some t → args[j]? = some v → Value.okWide Try.prog W .any base t v := hval0
  have hW' := hW
  obtain ⟨p, q, hA0, hV, rfl, hfz, hnd⟩ := hW
  have hA : DataW.TrodAll enc Try.prog W 0 (fun _ => true) true Try.f7.params.toList args.toList ds p := hA0
  rw [Try.params7] at hA hval
  obtain ⟨v0, vs0, d0, ds0, p0, q0, hargs, rfl, rfl, h0, r0⟩ := trodAll_cons hA
  obtain ⟨v1, vs1, d1, ds1, p1, q1, rfl, rfl, rfl, h1, r1⟩ := trodAll_cons r0
  obtain ⟨rfl, rfl, rfl⟩ := trodAll_nil r1
  obtain rfl : args = #[v0, v1] := by cases args; simp_all
  obtain ⟨rfl, rfl⟩ := trodVars_none hV
  have hbulk : Rows.uptoBulkAll ([d0, d1] ++ []) ≤ 1048576 := of_decide_eq_true hk
  simp only [List.append_nil, Rows.uptoBulkAll] at hbulk
  have k0 := h0
  have lt0 : ∀ x ∈ p0, x.block < W.heap.size := by obtain ⟨m, hm⟩ := k0; exact DataW.trod_lt m _ _ _ hm
  obtain ⟨fuel0, hf0⟩ := h0
  obtain ⟨x0, at0, bk0⟩ := Go.Ev.rd (counts (H := H)) 30 fuel0 26 (.slice (.cons (.int .i64) (.cons (.int .i64) (.cons (.int .i64) (.cons (.int .u64) (.cons (.int .i64) (.cons (.slice (.int .i64)) (.cons .bool .nil)))))))) _ _ (by kernel_rfl) hf0
  obtain ⟨a0, len0, cap0, rfl⟩ := okWide_slice Try.underlying26 (hval 0 26 v0 rfl rfl)
  obtain ⟨⟨xa0, xl0, xc0⟩, xs0⟩ := x0
  obtain ⟨rfl, rfl, rfl⟩ : a0 = xa0 ∧ len0 = xl0 ∧ cap0 = xc0 := by have := at0.1; simpa [Value.cells] using this
  have k1 := h1
  have lt1 : ∀ x ∈ p1, x.block < W.heap.size := by obtain ⟨m, hm⟩ := k1; exact DataW.trod_lt m _ _ _ hm
  obtain ⟨fuel1, hf1⟩ := h1
  obtain ⟨x1, at1, bk1⟩ := Go.Ev.rd (counts (H := H)) 30 fuel1 26 (.slice (.cons (.int .i64) (.cons (.int .i64) (.cons (.int .i64) (.cons (.int .u64) (.cons (.int .i64) (.cons (.slice (.int .i64)) (.cons .bool .nil)))))))) _ _ (by kernel_rfl) hf1
  obtain ⟨a1, len1, cap1, rfl⟩ := okWide_slice Try.underlying26 (hval 1 26 v1 rfl rfl)
  obtain ⟨⟨xa1, xl1, xc1⟩, xs1⟩ := x1
  obtain ⟨rfl, rfl, rfl⟩ : a1 = xa1 ∧ len1 = xl1 ∧ cap1 = xc1 := by have := at1.1; simpa [Value.cells] using this
  clear hA0 hval0
  obtain ⟨w', hc, hfr⟩ := Go.Proofs.Ytlcojbodcbjkaaa.TxnApart_main W ((a0, len0, cap0), xs0) at0 ((a1, len1, cap1), xs1) at1 (by have e0 : (Go.Ev.Ty.slice (.cons (.int .i64) (.cons (.int .i64) (.cons (.int .i64) (.cons (.int .u64) (.cons (.int .i64) (.cons (.slice (.int .i64)) (.cons .bool .nil)))))))).bulk ((a0, len0, cap0), xs0) ≤ Rows.uptoBulk d0 := bk0; have e1 : (Go.Ev.Ty.slice (.cons (.int .i64) (.cons (.int .i64) (.cons (.int .i64) (.cons (.int .u64) (.cons (.int .i64) (.cons (.slice (.int .i64)) (.cons .bool .nil)))))))).bulk ((a1, len1, cap1), xs1) ≤ Rows.uptoBulk d1 := bk1; omega)
  refine (Go.Ev.calls_below Try.call7 hc hfr).mono fun e W' ⟨he, bel⟩ => ?_
  subst he
  exact ⟨_, rfl, _, _, _, [], _, [], hW', trodAll_mk1 (shut_bool Try.underlying4 _), (trodAll_cons_mk (Below.trod laidOut (by kernel_rfl) (of_decide_eq_true (by kernel_rfl)) k0 bel lt0) (trodAll_cons_mk (Below.trod laidOut (by kernel_rfl) (of_decide_eq_true (by kernel_rfl)) k1 bel lt1) trodAll_mk0)), rfl, bel.frame _, fun h => by cases h⟩

theorem over : Rows.txnApartUptoRow.holds Try.pinned (Rows.OpenSpec.upto Rows.txnApartSpec) :=
  OpenClaim.holds_of_cond 7 Try.f7 rfl rfl rfl rfl rfl rfl rfl ⟨rfl, rfl, rfl, rfl, rfl⟩ rfl rfl rfl rfl rfl (by kernel_rfl) Try.func7 (by kernel_rfl)
    (of_decide_eq_true (by kernel_rfl)) (by unfold Func.isWrapper; first | (rw [if_pos (by decide +kernel)]; kernel_rfl) | (rw [if_neg (by decide +kernel)]; exact ⟨rfl, rfl⟩))
    (fun os started H enc _ F => lifted os started H enc F)

theorem proved : Rows.TxnApartUptoSaid := over
end Go.Proofs.Ytlcojbodcbjkaaa.txnApart
