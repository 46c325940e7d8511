/-
  ImagePl: lemmas on what Go functions of this seat come to (for whatever arguments, as each says). No condition but those that stand in each lemma.
-/
import Derived.Test.YtjcenfgmpbeldaaImageAb
namespace Go.Proofs.Ytjcenfgmpbeldaa
open Go Go.Ev
set_option linter.unusedVariables false
set_option linter.unusedSimpArgs false

/-- a partition as it may be, but for its leader -/
structure VP (ns : List NV) (te tv : Int) (v : PV) : Prop where
  si : sortedI ns.length v.isr
  sr : sortedI ns.length v.rep
  st : v.tgt = [] ∨ sortedI ns.length v.tgt
  sub : ∀ n ∈ v.isr, n ∈ v.rep ∨ n ∈ v.tgt
  ep : 0 ≤ v.ep ∧ v.ep ≤ te
  vr : 0 ≤ v.vr ∧ v.vr ≤ tv
structure VI (ns : List NV) (te tv : Int) (v : PV) : Prop extends VP ns te tv v where
  l0 : -1 ≤ v.ld
  l1 : 0 ≤ v.ld → v.ld ∈ v.isr ∧ aliveB ns v.ld = true
  l2 : v.ld < 0 → ∀ n ∈ v.isr, aliveB ns n = false
/-- what may become of a partition by one command -/
structure VR (v v' : PV) : Prop where
  ep : v.ep ≤ v'.ep
  vr : v.vr ≤ v'.vr
  ld : v'.ld ≠ v.ld → v'.ep ≠ v.ep
theorem VR.refl (v : PV) : VR v v := ⟨Int.le_refl _, Int.le_refl _, fun h => absurd rfl h⟩

section
variable {ns ns' : List NV} {te tv : Int} {v : PV}

theorem VP.mono {te' tv' : Int} (h : VP ns te tv v) (h1 : te ≤ te') (h2 : tv ≤ tv') : VP ns te' tv' v :=
  ⟨h.si, h.sr, h.st, h.sub, ⟨h.ep.1, by have := h.ep.2; omega⟩, ⟨h.vr.1, by have := h.vr.2; omega⟩⟩
theorem VI.mono {te' tv' : Int} (h : VI ns te tv v) (h1 : te ≤ te') (h2 : tv ≤ tv') : VI ns te' tv' v := ⟨h.toVP.mono h1 h2, h.l0, h.l1, h.l2⟩
theorem VP.len (h : VP ns te tv v) (hl : ns'.length = ns.length) : VP ns' te tv v := ⟨by rw [hl]; exact h.si, by rw [hl]; exact h.sr, by rw [hl]; exact h.st, h.sub, h.ep, h.vr⟩
theorem VP.names (h : VP ns te tv v) : Names ns v.isr ∧ Names ns v.tgt :=
  ⟨sortedI_names h.si rfl, by rcases h.st with ht | ht; rw [ht]; intro x hx; cases hx; exact sortedI_names ht rfl⟩

theorem ep_wrap (h : VP ns te tv v) (ht : te < 4611686018427387904) : IntKind.i64.wrap (v.ep + 1) = v.ep + 1 := by
  have := h.ep; exact wrap_i64 (by omega) (by omega)
theorem vr_wrap (h : VP ns te tv v) (ht : tv < 4611686018427387904) : IntKind.i64.wrap (v.vr + 1) = v.vr + 1 := by
  have := h.vr; exact wrap_i64 (by omega) (by omega)

theorem elect_vi (h : VP ns te tv v) (ht : te < 4611686018427387904) : VI ns (te + 1) tv (electV ns v) ∧ VR v (electV ns v) := by
  have hw := ep_wrap h ht
  have he := h.ep
  have hn := h.names.1
  refine ⟨⟨⟨h.si, h.sr, h.st, h.sub, ?_, h.vr⟩, ?_, ?_, ?_⟩, ⟨?_, Int.le_refl _, fun _ => ?_⟩⟩
  · show 0 ≤ IntKind.i64.wrap (v.ep + 1) ∧ IntKind.i64.wrap (v.ep + 1) ≤ te + 1
    rw [hw]; omega
  · show -1 ≤ (v.isr.find? (aliveB ns)).getD (-1)
    cases hf : v.isr.find? (aliveB ns) with
    | none => simp
    | some a => have := hn a (List.mem_of_find?_eq_some hf); simp; omega
  · show 0 ≤ (v.isr.find? (aliveB ns)).getD (-1) → (v.isr.find? (aliveB ns)).getD (-1) ∈ v.isr ∧ aliveB ns ((v.isr.find? (aliveB ns)).getD (-1)) = true
    cases hf : v.isr.find? (aliveB ns) with
    | none => intro h0; simp at h0
    | some a => intro _; exact ⟨List.mem_of_find?_eq_some hf, List.find?_some hf⟩
  · show (v.isr.find? (aliveB ns)).getD (-1) < 0 → ∀ n ∈ v.isr, aliveB ns n = false
    cases hf : v.isr.find? (aliveB ns) with
    | none => intro _ n hn'; rw [List.find?_eq_none] at hf; simpa using hf n hn'
    | some a => intro h0; have := hn a (List.mem_of_find?_eq_some hf); simp at h0; omega
  · show v.ep ≤ IntKind.i64.wrap (v.ep + 1)
    rw [hw]; omega
  · show IntKind.i64.wrap (v.ep + 1) ≠ v.ep
    rw [hw]; omega

theorem settle_vi (h : VI ns te tv v) (ht : te < 4611686018427387904) (hv : tv < 4611686018427387904) : VI ns (te + 1) (tv + 1) (settleV ns v) ∧ VR v (settleV ns v) := by
  unfold settleV
  by_cases h1 : v.tgt = []
  · rw [if_pos h1]; exact ⟨h.mono (by omega) (by omega), VR.refl _⟩
  rw [if_neg h1]
  by_cases h2 : ∀ n ∈ v.tgt, n ∈ v.isr
  case neg => rw [if_neg h2]; exact ⟨h.mono (by omega) (by omega), VR.refl _⟩
  rw [if_pos h2]
  have hw := vr_wrap h.toVP hv
  have hvr := h.vr
  have hst : sortedI ns.length v.tgt := by rcases h.st with hh | hh; exact absurd hh h1; exact hh
  have hp : VP ns te (tv + 1) { v with rep := v.tgt, isr := v.tgt, tgt := [], vr := IntKind.i64.wrap (v.vr + 1) } :=
    ⟨hst, hst, .inl rfl, fun n hn => .inl hn, h.ep, by show 0 ≤ IntKind.i64.wrap (v.vr + 1) ∧ IntKind.i64.wrap (v.vr + 1) ≤ tv + 1; rw [hw]; omega⟩
  by_cases h3 : v.ld ∈ v.tgt
  · rw [if_pos h3]
    have hl0 := (sortedI_names (ns := ns) hst rfl) _ h3
    refine ⟨⟨hp.mono (by omega) (Int.le_refl _), h.l0, fun h0 => ⟨h3, (h.l1 h0).2⟩, fun h0 => ?_⟩, ⟨Int.le_refl _, ?_, fun hh => absurd rfl hh⟩⟩
    · have h0' : v.ld < 0 := h0
      omega
    · show v.vr ≤ IntKind.i64.wrap (v.vr + 1)
      rw [hw]; omega
  · rw [if_neg h3]
    obtain ⟨e1, e2⟩ := elect_vi hp ht
    refine ⟨e1, ⟨e2.ep, ?_, fun _ => ?_⟩⟩
    · have : v.vr ≤ IntKind.i64.wrap (v.vr + 1) := by rw [hw]; omega
      exact this
    · show IntKind.i64.wrap (v.ep + 1) ≠ v.ep
      rw [ep_wrap h.toVP ht]; omega

theorem aliveB_set {n : Nat} (hn : n < ns.length) (nd : NV) {x : Int} (hx : 0 ≤ x) : aliveB (ns.set n nd) x = if x = (n : Int) then nd.al else aliveB ns x := by
  unfold aliveB
  rw [List.getElem?_set]
  by_cases h : x = (n : Int)
  · have : n = x.toNat := by omega
    rw [if_pos this, if_pos h, if_pos hn]
  · have : ¬ n = x.toNat := by omega
    rw [if_neg this, if_neg h]

theorem join_vi (h : VI ns te tv v) (ht : te < 4611686018427387904) {n : Nat} (hn : n < ns.length) (nd : NV) (hal : nd.al = true) :
    VI (ns.set n nd) (te + 1) tv (joinV (ns.set n nd) (n : Int) v) ∧ VR v (joinV (ns.set n nd) (n : Int) v) := by
  have hl : (ns.set n nd).length = ns.length := by simp
  have hp := h.toVP.len hl
  have hnm := h.names.1
  unfold joinV
  by_cases hc : v.ld = (n : Int) ∨ v.ld < 0 ∧ (n : Int) ∈ v.isr
  · rw [if_pos hc]; exact elect_vi hp ht
  · rw [if_neg hc]
    refine ⟨⟨hp.mono (by omega) (Int.le_refl _), h.l0, fun h0 => ⟨(h.l1 h0).1, ?_⟩, fun h0 x hx => ?_⟩, VR.refl _⟩
    · rw [aliveB_set hn nd h0]
      split
      · exact hal
      · exact (h.l1 h0).2
    · have := hnm x hx
      rw [aliveB_set hn nd this.1, if_neg (fun e => hc (.inr ⟨h0, by rw [← e]; exact hx⟩))]
      exact h.l2 h0 x hx

theorem without_mem {l : List Int} {n x : Int} : x ∈ without l n ↔ x ∈ l ∧ x ≠ n := by
  unfold without
  simp

theorem fence_vi (h : VI ns te tv v) (ht : te < 4611686018427387904) (htv : tv < 4611686018427387904) {n : Nat} (hn : n < ns.length) (nd : NV) (hal : nd.al = false) :
    VI (ns.set n nd) (te + 1) (tv + 1) (fenceV (ns.set n nd) (n : Int) v) ∧ VR v (fenceV (ns.set n nd) (n : Int) v) := by
  have hl : (ns.set n nd).length = ns.length := by simp
  have hp := h.toVP.len hl
  have hnm := h.names.1
  have hw := vr_wrap h.toVP htv
  have hvr := h.vr
  have hal' : ∀ x : Int, 0 ≤ x → aliveB (ns.set n nd) x = true → aliveB ns x = true ∧ x ≠ (n : Int) := by
    intro x hx hh
    rw [aliveB_set hn nd hx] at hh
    split at hh
    · rw [hal] at hh; cases hh
    · exact ⟨hh, ‹_›⟩
  have half : ∀ x : Int, 0 ≤ x → x ≠ (n : Int) → aliveB (ns.set n nd) x = aliveB ns x := fun x hx hne => by rw [aliveB_set hn nd hx, if_neg hne]
  have dead : ∀ x : Int, 0 ≤ x → aliveB ns x = false → aliveB (ns.set n nd) x = false := by
    intro x hx hh
    cases hc : aliveB (ns.set n nd) x with
    | false => rfl
    | true => rw [(hal' x hx hc).1] at hh; cases hh
  unfold fenceV
  by_cases hm : (n : Int) ∈ v.isr
  case neg =>
    rw [if_neg hm]
    refine ⟨⟨hp.mono (by omega) (by omega), h.l0, fun h0 => ⟨(h.l1 h0).1, ?_⟩, fun h0 x hx => dead x (hnm x hx).1 (h.l2 h0 x hx)⟩, VR.refl _⟩
    rw [half _ h0 (fun e => hm (e ▸ (h.l1 h0).1))]
    exact (h.l1 h0).2
  rw [if_pos hm]
  cases hany : (without v.isr (n : Int)).any (aliveB (ns.set n nd)) with
  | true =>
    rw [if_pos rfl]
    obtain ⟨a, ha, haa⟩ := List.any_eq_true.mp hany
    have hsr : sortedI (ns.set n nd).length (without v.isr (n : Int)) := by
      rw [hl]
      obtain ⟨h1, h2, h3⟩ := sortedI_iff.mp h.si
      exact sortedI_iff.mpr ⟨List.ne_nil_of_mem ha, fun y hy => h2 y (without_mem.mp hy).1, h3.filter _⟩
    have hp2 : VP (ns.set n nd) te (tv + 1) { v with isr := without v.isr (n : Int), vr := IntKind.i64.wrap (v.vr + 1) } :=
      ⟨hsr, hp.sr, hp.st, fun x hx => h.sub x (without_mem.mp hx).1, h.ep, by show 0 ≤ IntKind.i64.wrap (v.vr + 1) ∧ IntKind.i64.wrap (v.vr + 1) ≤ tv + 1; rw [hw]; omega⟩
    have hv1 : v.vr ≤ IntKind.i64.wrap (v.vr + 1) := by rw [hw]; omega
    by_cases hld : v.ld = (n : Int)
    · simp only [hld, if_true]
      rw [← hld]
      obtain ⟨e1, e2⟩ := elect_vi hp2 ht
      have hrw : ({ ld := v.ld, ep := v.ep, vr := IntKind.i64.wrap (v.vr + 1), isr := without v.isr (n : Int), rep := v.rep, tgt := v.tgt } : PV) = { v with isr := without v.isr (n : Int), vr := IntKind.i64.wrap (v.vr + 1) } := rfl
      rw [hld] at e1 e2 ⊢
      refine ⟨e1, ⟨e2.ep, hv1, fun _ => ?_⟩⟩
      show IntKind.i64.wrap (v.ep + 1) ≠ v.ep
      rw [ep_wrap h.toVP ht]; omega
    · rw [if_neg hld]
      refine ⟨⟨hp2.mono (by omega) (Int.le_refl _), h.l0, fun h0 => ?_, fun h0 x hx => ?_⟩, ⟨Int.le_refl _, hv1, fun hh => absurd rfl hh⟩⟩
      · have h0' : 0 ≤ v.ld := h0
        obtain ⟨m1, m2⟩ := h.l1 h0'
        exact ⟨without_mem.mpr ⟨m1, hld⟩, by show aliveB _ v.ld = true; rw [half _ h0' hld]; exact m2⟩
      · have h0' : v.ld < 0 := h0
        have hx' := without_mem.mp hx
        exact dead x (hnm x hx'.1).1 (h.l2 h0' x hx'.1)
  | false =>
    have hno : ∀ x ∈ without v.isr (n : Int), aliveB (ns.set n nd) x = false := by
      intro x hx
      cases hc : aliveB (ns.set n nd) x with
      | false => rfl
      | true => rw [List.any_eq_true.mpr ⟨x, hx, hc⟩] at hany; cases hany
    have e0 : ∀ (a b : PV), (if false = true then a else b) = b := fun a b => if_neg (by simp)
    rw [e0]
    by_cases hld : v.ld = (n : Int)
    · rw [if_pos hld]
      obtain ⟨e1, e2⟩ := elect_vi (hp.mono (Int.le_refl _) (show tv ≤ tv + 1 by omega)) ht
      exact ⟨e1, e2⟩
    · rw [if_neg hld]
      refine ⟨⟨hp.mono (by omega) (by omega), h.l0, fun h0 => ?_, fun h0 x hx => dead x (hnm x hx).1 (h.l2 h0 x hx)⟩, VR.refl _⟩
      obtain ⟨m1, m2⟩ := h.l1 h0
      exact ⟨m1, by rw [half _ h0 hld]; exact m2⟩

theorem isr_vi (h : VI ns te tv v) (ht : te < 4611686018427387903) (htv : tv < 4611686018427387902) (x : CV) : VI ns (te + 1) (tv + 2) (isrV ns x v).1 ∧ VR v (isrV ns x v).1 := by
  have keep : VI ns (te + 1) (tv + 2) v ∧ VR v v := ⟨h.mono (by omega) (by omega), VR.refl _⟩
  unfold isrV
  by_cases h1 : sortedI ns.length x.ls
  case neg => rw [if_pos h1]; exact keep
  rw [if_neg (by simp [h1])]
  by_cases h2 : v.ld < 0 ∨ x.ep ≠ v.ep ∨ x.nd ≠ v.ld ∨ x.vr ≠ v.vr
  · rw [if_pos h2]; exact keep
  rw [if_neg h2]
  by_cases h3 : v.ld ∈ x.ls
  case neg => rw [if_pos h3]; exact keep
  rw [if_neg (by simp [h3])]
  cases h4 : x.ls.any (isrBad ns v) with
  | true => rw [if_pos rfl]; exact keep
  | false =>
    rw [if_neg (by simp)]
    have hw := vr_wrap h.toVP (by omega)
    have hvr := h.vr
    have good : ∀ n ∈ x.ls, n ∈ v.rep ∨ n ∈ v.tgt := by
      intro n hn
      have hb : isrBad ns v n = false := by
        cases hc : isrBad ns v n with
        | false => rfl
        | true => rw [List.any_eq_true.mpr ⟨n, hn, hc⟩] at h4; cases h4
      unfold isrBad at hb
      simp only [Bool.not_eq_false', Bool.and_eq_true, Bool.or_eq_true, decide_eq_true_eq] at hb
      exact hb.1
    have h0 : 0 ≤ v.ld := by omega
    have hi : VI ns te (tv + 1) { v with isr := x.ls, vr := IntKind.i64.wrap (v.vr + 1) } :=
      ⟨⟨h1, h.sr, h.st, good, h.ep, by show 0 ≤ IntKind.i64.wrap (v.vr + 1) ∧ IntKind.i64.wrap (v.vr + 1) ≤ tv + 1; rw [hw]; omega⟩, h.l0, fun _ => ⟨h3, (h.l1 h0).2⟩, fun hh => by have : v.ld < 0 := hh; omega⟩
    obtain ⟨e1, e2⟩ := settle_vi hi (by omega) (by omega)
    refine ⟨e1.mono (Int.le_refl _) (by omega), ⟨e2.ep, ?_, e2.ld⟩⟩
    have h5 : v.vr ≤ IntKind.i64.wrap (v.vr + 1) := by rw [hw]; omega
    exact Int.le_trans h5 e2.vr

theorem move_vi (h : VI ns te tv v) (ht : te < 4611686018427387903) (htv : tv < 4611686018427387902) (x : CV) : VI ns (te + 1) (tv + 2) (moveV ns x v).1 ∧ VR v (moveV ns x v).1 := by
  have keep : VI ns (te + 1) (tv + 2) v ∧ VR v v := ⟨h.mono (by omega) (by omega), VR.refl _⟩
  unfold moveV
  by_cases h1 : sortedI ns.length x.ls
  case neg => rw [if_pos h1]; exact keep
  rw [if_neg (by simp [h1])]
  by_cases h2 : v.tgt = []
  case neg => rw [if_pos h2]; exact keep
  rw [if_neg (by simp [h2])]
  have hi : VI ns te tv { v with tgt := x.ls } :=
    ⟨⟨h.si, h.sr, .inr h1, fun n hn => .inl (by rcases h.sub n hn with hh | hh; exact hh; rw [h2] at hh; cases hh), h.ep, h.vr⟩, h.l0, h.l1, h.l2⟩
  obtain ⟨e1, e2⟩ := settle_vi hi (by omega) (by omega)
  exact ⟨e1.mono (Int.le_refl _) (by omega), ⟨e2.ep, e2.vr, e2.ld⟩⟩
end

/-- an image as it may be behind t commands -/
structure MI (t : Int) (m : IM) : Prop where
  nlen : 1 ≤ m.ns.length ∧ m.ns.length ≤ 5
  vlen : 1 ≤ m.vs.length ∧ m.vs.length ≤ 6
  next : 1 ≤ m.next ∧ m.next ≤ 1001
  vs : ∀ v ∈ m.vs, VI m.ns t (2 * t) v

theorem MI.ok {t : Int} {m : IM} (h : MI t m) : IOk m := ⟨fun v hv => (h.vs v hv).names, by have := h.nlen; omega, by have := h.vlen; omega, by have := h.next; omega⟩

structure MR (m m' : IM) : Prop where
  nl : m'.ns.length = m.ns.length
  vl : m'.vs.length = m.vs.length
  each : ∀ k (h : k < m.vs.length) (h' : k < m'.vs.length), VR m.vs[k] m'.vs[k]

theorem MR.same {m : IM} {c : Int} : MR m { m with count := c } := ⟨rfl, rfl, fun k _ _ => VR.refl _⟩

theorem apply_mi {t : Int} {m : IM} (h : MI t m) (ht : 0 ≤ t ∧ t < 5000000000000) (x : CV) : MI (t + 1) (applyI m x).1 ∧ MR m (applyI m x).1 := by
  have keep : ∀ c, MI (t + 1) { m with count := c } ∧ MR m { m with count := c } := fun c => ⟨⟨h.nlen, h.vlen, h.next, fun v hv => (h.vs v hv).mono (by omega) (by omega)⟩, MR.same⟩
  have hnx := h.next
  unfold applyI
  by_cases hk : x.k = 1 ∨ x.k = 2 ∨ x.k = 5
  · rw [if_pos hk]
    by_cases hr : x.nd < 0 ∨ (m.ns.length : Int) ≤ x.nd
    · rw [if_pos hr]; exact keep _
    rw [if_neg hr]
    obtain ⟨n, hn⟩ : ∃ n : Nat, x.nd = (n : Int) := ⟨x.nd.toNat, by omega⟩
    have hnn : n < m.ns.length := by omega
    have htn : x.nd.toNat = n := by omega
    rw [htn, getD_nat hnn, hn]
    by_cases h1 : x.k = 1
    · rw [if_pos h1]
      by_cases h2 : x.ep ≤ m.ns[n].cm
      · rw [if_pos h2]; exact keep _
      rw [if_neg h2]
      refine ⟨⟨by simpa using h.nlen, by simpa using h.vlen, hnx, fun v hv => ?_⟩, ⟨by simp, by simp, fun k hk' hk'' => ?_⟩⟩
      · obtain ⟨u, hu, rfl⟩ := List.mem_map.mp hv
        exact (join_vi (h.vs u hu) (by omega) hnn _ rfl).1.mono (Int.le_refl _) (by omega)
      · simp only [List.getElem_map]
        exact (join_vi (h.vs _ (List.getElem_mem hk')) (by omega) hnn _ rfl).2
    rw [if_neg h1]
    by_cases h2 : x.k = 2
    · rw [if_pos h2]
      cases hal : m.ns[n].al with
      | false => rw [if_neg (by simp)]; exact keep _
      | true =>
        rw [if_pos rfl]
        refine ⟨⟨by simpa using h.nlen, by simpa using h.vlen, hnx, fun v hv => ?_⟩, ⟨by simp, by simp, fun k hk' hk'' => ?_⟩⟩
        · obtain ⟨u, hu, rfl⟩ := List.mem_map.mp hv
          exact (fence_vi (h.vs u hu) (by omega) (by omega) hnn _ rfl).1.mono (Int.le_refl _) (by omega)
        · simp only [List.getElem_map]
          exact (fence_vi (h.vs _ (List.getElem_mem hk')) (by omega) (by omega) hnn _ rfl).2
    rw [if_neg h2]
    by_cases h3 : 1001 - m.next < 10
    · rw [if_pos h3]; exact keep _
    rw [if_neg h3]
    refine ⟨⟨by simpa using h.nlen, h.vlen, by show 1 ≤ m.next + 10 ∧ m.next + 10 ≤ 1001; omega, fun v hv => ?_⟩, ⟨by simp, rfl, fun k _ _ => VR.refl _⟩⟩
    have hv0 := h.vs v hv
    have hlen : (m.ns.set n { m.ns[n] with bk := m.next }).length = m.ns.length := by simp
    have hal : ∀ y, 0 ≤ y → aliveB (m.ns.set n { m.ns[n] with bk := m.next }) y = aliveB m.ns y := by
      intro y hy
      rw [aliveB_set hnn _ hy]
      split
      · rename_i he
        unfold aliveB
        have : y.toNat = n := by omega
        rw [this, List.getElem?_eq_getElem hnn]
      · rfl
    exact ⟨(hv0.toVP.len hlen).mono (by omega) (by omega), hv0.l0, fun h0 => ⟨(hv0.l1 h0).1, by rw [hal _ h0]; exact (hv0.l1 h0).2⟩, fun h0 y hy => by rw [hal _ (hv0.names.1 y hy).1]; exact hv0.l2 h0 y hy⟩
  · rw [if_neg hk]
    by_cases h34 : x.k = 3 ∨ x.k = 4
    · rw [if_pos h34]
      by_cases hr : x.pt < 0 ∨ (m.vs.length : Int) ≤ x.pt
      · rw [if_pos hr]; exact keep _
      rw [if_neg hr]
      obtain ⟨k, hkk⟩ : ∃ k : Nat, x.pt = (k : Int) := ⟨x.pt.toNat, by omega⟩
      have hkn : k < m.vs.length := by omega
      have htk : x.pt.toNat = k := by omega
      rw [htk, getD_nat hkn]
      have hp : VI m.ns (t + 1) (2 * t + 2) (partI m.ns x m.vs[k]).1 ∧ VR m.vs[k] (partI m.ns x m.vs[k]).1 := by
        unfold partI
        split
        · exact isr_vi (h.vs _ (List.getElem_mem hkn)) (by omega) (by omega) x
        · exact move_vi (h.vs _ (List.getElem_mem hkn)) (by omega) (by omega) x
      refine ⟨⟨h.nlen, by simpa using h.vlen, hnx, fun v hv => ?_⟩, ⟨rfl, by simp, fun j hj hj' => ?_⟩⟩
      · rcases List.mem_or_eq_of_mem_set hv with hv | rfl
        · exact (h.vs v hv).mono (by omega) (by omega)
        · exact hp.1.mono (Int.le_refl _) (by omega)
      · simp only [List.getElem_set]
        split
        · rename_i he; subst he; exact hp.2
        · exact VR.refl _
    · rw [if_neg h34]; exact keep _
end Go.Proofs.Ytjcenfgmpbeldaa
