/-
  An evaluator of the code of the model, in Option, and the proof that what it answers is what a call comes to, for whatever program: part Ev10. No condition.
-/
import Derived.Test.YtjcenfgmpbeldaaEv9
namespace Go.Ev
open Go
section
variable {P : Program} {N : Nat} {ops : Array Oper}

theorem stepV_congr {i : Nat} {ρ1 ρ2 : Env} {w w' : World} {v : Value} (h : ∀ t ∈ readsOf ops i, ρ1 t = ρ2 t) (hv : StepV P N ops i ρ1 w v w') :
    StepV P N ops i ρ2 w v w' := by
  unfold StepV at hv ⊢
  cases ho : ops[i]? with
  | none => rw [ho] at hv; exact hv
  | some o =>
    rw [ho] at hv
    simp only at hv ⊢
    have hwant : wantE N ops ρ1 o = wantE N ops ρ2 o := by
      unfold wantE
      cases hg : o.guard with
      | none => rfl
      | some g =>
        obtain ⟨j, want⟩ := g
        simp only
        cases hd : (ops[j]?).bind (·.dst) with
        | none => rfl
        | some d =>
          have : ρ1 d = ρ2 d := h d (by simp [readsOf, ho, hg, dstOf, hd])
          simp only [this]
    have hx : ∀ x ∈ o.op.operands.toList, known1 ρ1 x = known1 ρ2 x ∧ evalO ρ1 x = evalO ρ2 x := by
      intro x hx
      cases x with
      | tmp t =>
        have : ρ1 t = ρ2 t := h t (by simp only [readsOf, ho, tmpsOf, List.mem_append, List.mem_filterMap]; left; exact ⟨_, hx, rfl⟩)
        simp only [known1, evalO, this, and_self]
      | const v => exact ⟨rfl, rfl⟩
      | global g => exact ⟨rfl, rfl⟩
      | func f => exact ⟨rfl, rfl⟩
    rw [← hwant]
    rcases hv with ⟨h1, h2, h3, h4⟩ | h1
    · refine .inl ⟨h1, ?_, h3, ?_⟩
      · refine List.all_eq_true.2 fun x hm => ?_
        rw [← (hx x hm).1]
        exact List.all_eq_true.1 h2 x hm
      · unfold runOp at h4 ⊢
        rw [← execOp_congr h3 (fun x hm => (hx x hm).2)]
        exact h4
    · exact .inr h1

theorem SV.congr {i : Nat} {ρ1 ρ2 : Env} {w w' : World} {v : Value} (h : ∀ t ∈ readsOf ops i, ρ1 t = ρ2 t) (hv : SV P N ops i ρ1 w v w') :
    SV P N ops i ρ2 w v w' :=
  ⟨stepV_congr h hv.step, hv.quiet, fun hc w2 => stepV_congr h (hv.pure hc w2)⟩

theorem putD_ne {ρ : Env} {d : Option Nat} {v : Value} {t : Nat} (h : ∀ x, d = some x → t ≠ x) : ρ.put N d v t = ρ t := by
  cases d with
  | none => rfl
  | some x => exact put_ne (h x rfl)

theorem put_comm {ρ : Env} {d e : Option Nat} {u v : Value} (h : ∀ x, d = some x → e ≠ some x) : (ρ.put N d u).put N e v = (ρ.put N e v).put N d u := by
  cases d with
  | none => rfl
  | some x =>
    cases e with
    | none => rfl
    | some y =>
      have hxy : y ≠ x := fun e => h x rfl (by rw [e])
      funext t
      by_cases h1 : t = x
      · subst h1
        rw [put_ne (Ne.symm hxy)]
        cases hb : Nat.blt t N with
        | true => rw [put_at hb, put_at hb]
        | false => rw [put_out hb, put_out hb, put_ne (Ne.symm hxy)]
      · rw [put_ne (ρ := ρ.put N (some y) v) h1]
        by_cases h2 : t = y
        · subst h2
          cases hb : Nat.blt t N with
          | true => rw [put_at hb, put_at hb]
          | false => rw [put_out hb, put_out hb, put_ne h1]
        · rw [put_ne h2, put_ne h1, put_ne h2]

def ExecC (P : Program) (N : Nat) (ops : Array Oper) : List Nat → Env → World → Env → World → Prop
  | [], ρ, w, ρ', w' => ρ' = ρ ∧ w' = w
  | i :: l, ρ, w, ρ', w' => ∃ v w1, SV P N ops i ρ w v w1 ∧ ExecC P N ops l (ρ.put N (dstOf ops i) v) w1 ρ' w'

theorem ExecC.exec : ∀ {l : List Nat} {ρ ρ' : Env} {w w' : World}, ExecC P N ops l ρ w ρ' w' → Exec P N ops l ρ w ρ' w'
  | [], _, _, _, _, h => h
  | _ :: _, _, _, _, _, ⟨_, _, h1, h2⟩ => ⟨_, _, step_of_stepV h1.step, h2.exec⟩

theorem indep_parts {i j : Nat} (h : indep ops i j = true) :
    (∀ x, dstOf ops i = some x → x ∉ readsOf ops j ∧ dstOf ops j ≠ some x) ∧ (∀ x, dstOf ops j = some x → x ∉ readsOf ops i) := by
  unfold indep at h
  simp only [Bool.and_eq_true] at h
  obtain ⟨h1, h2⟩ := h
  refine ⟨fun x hx => ?_, fun x hx => ?_⟩
  · rw [hx] at h1
    simp only [Bool.and_eq_true, Bool.not_eq_true', List.contains_eq_mem, decide_eq_false_iff_not] at h1
    refine ⟨h1.1, fun e => ?_⟩
    rw [e] at h1
    simp at h1
  · rw [hx] at h2
    simpa using h2

theorem swap2 {i j : Nat} {ρ : Env} {w w1 wi : World} {vi vj : Value} (hsw : swapOk P ops i j = true) (h1 : SV P N ops i ρ w vi wi)
    (h2 : SV P N ops j (ρ.put N (dstOf ops i) vi) wi vj w1) :
    SV P N ops j ρ w vj w1 ∧ SV P N ops i (ρ.put N (dstOf ops j) vj) w1 vi w1 ∧
      (ρ.put N (dstOf ops i) vi).put N (dstOf ops j) vj = (ρ.put N (dstOf ops j) vj).put N (dstOf ops i) vi := by
  unfold swapOk at hsw
  simp only [Bool.and_eq_true, Bool.or_eq_true, beq_iff_eq, bne_iff_ne] at hsw
  obtain ⟨hi, hc⟩ := hsw
  obtain ⟨p1, p2⟩ := indep_parts hi
  have hq : cls P ops i ≠ 0 := by rcases hc with h | h <;> omega
  have hwi := h1.quiet hq
  subst hwi
  have hj : SV P N ops j ρ wi vj w1 := h2.congr fun t ht => putD_ne fun x hx e => (p1 x hx).1 (e ▸ ht)
  refine ⟨hj, ?_, put_comm fun x hx => (p1 x hx).2⟩
  have hi2 : SV P N ops i ρ w1 vi w1 := by
    rcases hc with h | h
    · exact ⟨h1.pure h w1, fun _ => rfl, fun _ w2 => h1.pure h w2⟩
    · have := hj.quiet h.2
      subst this
      exact h1
  exact hi2.congr fun t ht => (putD_ne fun x hx e => p2 x hx (e ▸ ht)).symm

theorem move_back {i : Nat} : ∀ {l1 l2 : List Nat} {ρ ρ' : Env} {w w' : World}, (∀ j ∈ l1, swapOk P ops i j = true) →
    ExecC P N ops (i :: (l1 ++ l2)) ρ w ρ' w' → ExecC P N ops (l1 ++ i :: l2) ρ w ρ' w'
  | [], _, _, _, _, _, _, h => h
  | j :: l1, l2, ρ, ρ', w, w', hsw, h => by
    obtain ⟨vi, wi, h1, vj, wj, h2, h3⟩ := h
    obtain ⟨h4, h5, h6⟩ := swap2 (hsw j (by simp)) h1 h2
    refine ⟨vj, wj, h4, move_back (fun k hk => hsw k (by simp [hk])) ⟨vi, wj, h5, ?_⟩⟩
    rw [← h6]; exact h3

def Valid (ops : Array Oper) : List Nat → List Nat → Prop
  | rem, [] => rem = []
  | rem, i :: l => i ∈ rem ∧ (∀ p ∈ preds ops i, p ∉ rem) ∧ Valid ops (rem.erase i) l

theorem Valid.perm : ∀ {l rem : List Nat}, Valid ops rem l → rem.Perm l
  | [], rem, h => by rw [show rem = [] from h]
  | i :: l, rem, ⟨h1, _, h3⟩ => (List.perm_cons_erase h1).trans (h3.perm.cons i)

theorem Valid.erase : ∀ {l rem : List Nat} {i : Nat}, rem.Nodup → Valid ops rem l → i ∈ rem → (∀ p ∈ preds ops i, p ∉ rem) → Valid ops (rem.erase i) (l.erase i)
  | [], rem, i, _, h, hi, _ => by rw [show rem = [] from h] at hi; cases hi
  | k :: l, rem, i, hn, ⟨h1, h2, h3⟩, hi, hp => by
    by_cases hk : k = i
    · subst hk
      simpa using h3
    · rw [List.erase_cons_tail (by simpa using hk)]
      refine ⟨(List.mem_erase_of_ne hk).2 h1, fun p hp' hmem => h2 p hp' (List.mem_of_mem_erase hmem), ?_⟩
      rw [List.erase_comm]
      exact Valid.erase (hn.erase k) h3 ((List.mem_erase_of_ne (Ne.symm hk)).2 hi) fun p hp' hmem => hp p hp' (List.mem_of_mem_erase hmem)

theorem before_in {i : Nat} {S rem0 : List Nat} (hc : closedChk ops i rem0 S = true) : ∀ {l1 l2 rem : List Nat}, rem.Nodup → Valid ops rem (l1 ++ i :: l2) → i ∉ l1 →
    (∀ x ∈ rem, x ∈ rem0) → (∀ x ∈ rem0, x ∉ rem → x ∈ S) → ∀ j ∈ l1, j ∈ S
  | [], _, _, _, _, _, _, _ => fun j hj => by cases hj
  | k :: l1, l2, rem, hn, h, hni, hsub, hdone => by
    obtain ⟨h1, h2, h3⟩ := h
    have hki : k ≠ i := fun e => hni (by simp [e])
    have hkS : k ∈ S := by
      have := List.all_eq_true.1 hc k (hsub k h1)
      simp only [Bool.or_eq_true, beq_iff_eq, List.contains_eq_mem, decide_eq_true_eq, List.any_eq_true, Bool.and_eq_true, Bool.not_eq_true', decide_eq_false_iff_not] at this
      rcases this with (h4 | h4) | ⟨p, hp, h5, h6⟩
      · exact absurd h4 hki
      · exact h4
      · exact absurd (hdone p h5 (h2 p hp)) h6
    intro j hj
    rcases List.mem_cons.1 hj with rfl | hj
    · exact hkS
    · refine before_in hc (hn.erase k) h3 (fun e => hni (by simp [e])) (fun x hx => hsub x (List.mem_of_mem_erase hx)) (fun x hx hnx => ?_) j hj
      by_cases hxk : x = k
      · rw [hxk]; exact hkS
      · exact hdone x hx fun hmem => hnx ((List.mem_erase_of_ne hxk).2 hmem)

theorem br_pick {β : Type} {L : List Nat} {f : Nat → Option β} {i : Nat} : ∀ {rs : List Nat}, rs.Nodup → i ∈ rs → (∀ a ∈ rs, a ≠ i → L.idxOf i < L.idxOf a) → br L rs f = f i
  | [], _, h, _ => by cases h
  | [a], _, h, _ => by simp at h; subst h; rfl
  | a :: b :: l, hn, h, hlt => by
    unfold br
    by_cases ha : a = i
    · subst ha
      rw [if_pos]
      rw [List.all_eq_true]
      intro x hx
      have : x ≠ a := fun e => (List.nodup_cons.1 hn).1 (e ▸ hx)
      simp only [ahd, decide_eq_true_eq]
      exact hlt x (by simp at hx ⊢; right; exact hx) this
    · have hi : i ∈ b :: l := by
        rcases List.mem_cons.1 h with h | h
        · exact absurd h.symm ha
        · exact h
      rw [if_neg]
      · exact br_pick (List.nodup_cons.1 hn).2 hi fun x hx hne => hlt x (List.mem_cons_of_mem _ hx) hne
      · intro hall
        have := List.all_eq_true.1 hall i hi
        simp only [ahd, decide_eq_true_eq] at this
        have := hlt a (by simp) ha
        omega

theorem idx_lt_of_sublist {L : List Nat} {i a : Nat} {l : List Nat} (hn : L.Nodup) (h : (i :: l).Sublist L) (ha : a ∈ l) : L.idxOf i < L.idxOf a := by
  induction L with
  | nil => cases h
  | cons x L ih =>
    have hnx := (List.nodup_cons.1 hn)
    cases h with
    | cons _ h =>
      have hi : i ∈ L := h.subset (by simp)
      have haL : a ∈ L := h.subset (by simp [ha])
      have := ih hnx.2 h
      have e1 : (x == i) = false := by
        have : x ≠ i := fun e => hnx.1 (e ▸ hi)
        simpa using this
      have e2 : (x == a) = false := by
        have : x ≠ a := fun e => hnx.1 (e ▸ haL)
        simpa using this
      simp only [List.idxOf_cons, e1, e2, cond_false]
      omega
    | cons_cons _ h =>
      have haL : a ∈ L := h.subset ha
      have e2 : (i == a) = false := by
        have : i ≠ a := fun e => hnx.1 (e ▸ haL)
        simpa using this
      simp only [List.idxOf_cons, e2, cond_false, beq_self_eq_true, cond_true]
      omega

theorem evX_ok {β : Type} {L : List Nat} (hL : L.Nodup) {K : Env → World → Option β} {r : β} : ∀ {n : Nat} {rem l : List Nat} {ρ : Env} {w : World},
    rem.Nodup → Valid ops rem l → l.Sublist L → evX P N ops L n rem ρ w K = some r → ∃ ρ' w', ExecC P N ops l ρ w ρ' w' ∧ K ρ' w' = some r := by
  intro n
  induction n with
  | zero =>
    intro rem l ρ w hn hv hs h
    unfold evX at h
    split at h
    · have hp := hv.perm
      have : l = [] := List.Perm.nil_eq hp |>.symm
      subst this
      exact ⟨ρ, w, ⟨rfl, rfl⟩, h⟩
    · cases h
  | succ n ih =>
    intro rem l ρ w hn hv hs h
    unfold evX at h
    split at h
    · have hp := hv.perm
      have : l = [] := List.Perm.nil_eq hp |>.symm
      subst this
      exact ⟨ρ, w, ⟨rfl, rfl⟩, h⟩
    · rename_i a rm
      split at h
      · rename_i i hf
        have hfree := List.find?_some hf
        have hmem := List.mem_of_find?_eq_some hf
        unfold readyL at hmem
        obtain ⟨hirem, hiready⟩ := List.mem_filter.1 hmem
        have hir : ∀ p ∈ preds ops i, p ∉ a :: rm := fun p hp => by
          have := List.all_eq_true.1 hiready p hp
          simpa using this
        obtain ⟨v, w1, h1, h2⟩ := stepC_ok h
        obtain ⟨ρ', w', h3, h4⟩ := ih (hn.erase i) (Valid.erase hn hv hirem hir) ((List.erase_sublist).trans hs) h2
        refine ⟨ρ', w', ?_, h4⟩
        have hil : i ∈ l := (hv.perm.mem_iff).1 hirem
        obtain ⟨l1, l2, hni, hl, herase⟩ := List.exists_erase_eq hil
        rw [herase] at h3
        rw [hl]
        refine move_back (fun j hj => ?_) ⟨v, w1, h1, h3⟩
        unfold freeOp at hfree
        simp only [Bool.and_eq_true] at hfree
        have hjS := before_in hfree.1 (l1 := l1) (l2 := l2) hn (hl ▸ hv) hni (fun x hx => hx) (fun x hx hnx => absurd hx hnx) j hj
        exact List.all_eq_true.1 hfree.2 j hjS
      · rename_i hf
        cases l with
        | nil => exact absurd (show a :: rm = [] from hv) (by simp)
        | cons i l =>
          have hv' := hv
          obtain ⟨g1, g2, g3⟩ := hv
          have hi : i ∈ readyL ops (a :: rm) := by
            unfold readyL
            refine List.mem_filter.2 ⟨g1, List.all_eq_true.2 fun p hp => ?_⟩
            have := g2 p hp
            simpa using this
          have hnr : (readyL ops (a :: rm)).Nodup := hn.filter _
          rw [br_pick hnr hi (fun x hx hne => by
            have hxl : x ∈ i :: l := (hv'.perm.mem_iff).1 (List.mem_filter.1 hx).1
            rcases List.mem_cons.1 hxl with e | hxl
            · exact absurd e hne
            · exact idx_lt_of_sublist hL hs hxl)] at h
          obtain ⟨v, w1, h1, h2⟩ := stepC_ok h
          obtain ⟨ρ', w', h3, h4⟩ := ih (hn.erase i) g3 ((List.sublist_cons_self i l).trans hs) h2
          exact ⟨ρ', w', ⟨v, w1, h1, h3⟩, h4⟩

/-! ### the orders that the model draws are valid -/
def backward (ops : Array Oper) : Bool := (List.range ops.size).all fun i => (preds ops i).all fun p => decide (p < i)

def remOf (n : Nat) (listed : Array Bool) : List Nat := (List.range n).filter fun i => !listed.getD i true

theorem remOf_set {n i : Nat} {listed : Array Bool} (hi : i < listed.size) : remOf n (listed.setIfInBounds i true) = (remOf n listed).erase i := by
  unfold remOf
  rw [List.Nodup.erase_eq_filter (List.nodup_range.filter _), List.filter_filter]
  apply List.filter_congr
  intro x _
  by_cases hx : x = i
  · subst hx
    simp [Array.getD_eq_getD_getElem?, hi]
  · have : (x != i) = true := by simpa using hx
    simp [Array.getD_eq_getD_getElem?, Ne.symm hx, this]

theorem lin_valid (hb : backward ops = true) : ∀ {fuel t : Nat} {listed : Array Bool} {acc : List Nat}, listed.size = ops.size → (remOf ops.size listed).length ≤ fuel →
    ∃ l, Region.linearise.go .any ops fuel t listed acc = acc.reverse ++ l ∧ Valid ops (remOf ops.size listed) l := by
  intro fuel
  induction fuel with
  | zero =>
    intro t listed acc hs hf
    refine ⟨[], by simp [Region.linearise.go], ?_⟩
    exact List.length_eq_zero_iff.1 (Nat.le_zero.1 hf)
  | succ fuel ih =>
    intro t listed acc hs hf
    unfold Region.linearise.go
    have hrs : ∀ i, i ∈ ((List.range ops.size).filter fun i => !listed.getD i true && ((ops[i]?).map (·.after.all fun e => !Region.binds .any e || listed.getD e.on false)).getD false) →
        i ∈ remOf ops.size listed ∧ ∀ p ∈ preds ops i, p ∉ remOf ops.size listed := by
      intro i hi
      obtain ⟨h1, h2⟩ := List.mem_filter.1 hi
      simp only [Bool.and_eq_true] at h2
      refine ⟨List.mem_filter.2 ⟨h1, h2.1⟩, fun p hp hmem => ?_⟩
      have hlt : i < ops.size := List.mem_range.1 h1
      have ho : ops[i]? = some ops[i] := Array.getElem?_eq_getElem hlt
      rw [ho] at h2
      simp only [Option.map_some, Option.getD_some] at h2
      unfold preds at hp
      rw [ho] at hp
      simp only at hp
      obtain ⟨e, he, rfl⟩ := List.mem_map.1 hp
      obtain ⟨he1, he2⟩ := List.mem_filter.1 he
      have := (Array.all_eq_true'.1 h2.2) e (by simpa using he1)
      simp only [he2, Bool.not_true, Bool.false_or] at this
      have h3 := (List.mem_filter.1 hmem).2
      rw [Array.getD_eq_getD_getElem?] at this h3
      cases hl : listed[e.on]? with
      | none => rw [hl] at this; simp at this
      | some b => rw [hl] at this h3; simp at this h3; rw [this] at h3; cases h3
    cases hr : ((List.range ops.size).filter fun i => !listed.getD i true && ((ops[i]?).map (·.after.all fun e => !Region.binds .any e || listed.getD e.on false)).getD false) with
    | nil =>
      refine ⟨[], by simp, ?_⟩
      show remOf ops.size listed = []
      cases hm : remOf ops.size listed with
      | nil => rfl
      | cons m ms =>
        exfalso
        -- the least that is left is ready
        have hmin : ∀ k, k < ops.size → listed.getD k true = false → False := by
          intro k
          induction k using Nat.strongRecOn with
          | _ k ihk =>
            intro hk hlk
            have : k ∈ ((List.range ops.size).filter fun i => !listed.getD i true && ((ops[i]?).map (·.after.all fun e => !Region.binds .any e || listed.getD e.on false)).getD false) := by
              refine List.mem_filter.2 ⟨List.mem_range.2 hk, ?_⟩
              have ho : ops[k]? = some ops[k] := Array.getElem?_eq_getElem hk
              rw [ho]
              simp only [hlk, Bool.not_false, Bool.true_and, Option.map_some, Option.getD_some]
              rw [Array.all_eq_true']
              intro e he
              by_cases hbind : Region.binds .any e = true
              · simp only [hbind, Bool.not_true, Bool.false_or]
                have hpk : e.on ∈ preds ops k := by
                  unfold preds; rw [ho]
                  exact List.mem_map.2 ⟨e, List.mem_filter.2 ⟨by simpa using he, hbind⟩, rfl⟩
                have hlt : e.on < k := by
                  have := List.all_eq_true.1 hb k (List.mem_range.2 hk)
                  have := List.all_eq_true.1 this _ hpk
                  simpa using this
                cases hle : listed.getD e.on true with
                | false => exact (ihk _ hlt (by omega) hle).elim
                | true =>
                  have hsz : e.on < listed.size := by omega
                  rw [Array.getD_eq_getD_getElem?, Array.getElem?_eq_getElem hsz] at hle ⊢
                  simpa using hle
              · simp [hbind]
            rw [hr] at this
            cases this
        have h1 := List.mem_filter.1 (show m ∈ remOf ops.size listed by rw [hm]; simp)
        exact hmin m (List.mem_range.1 h1.1) (by simpa using h1.2)
    | cons r0 rs =>
      have hlen : 0 < (r0 :: rs).length := by simp
      have hlt : t % (r0 :: rs).length < (r0 :: rs).length := Nat.mod_lt _ hlen
      have hget : (r0 :: rs)[t % (r0 :: rs).length]? = some (r0 :: rs)[t % (r0 :: rs).length] := List.getElem?_eq_getElem hlt
      simp only [hget]
      generalize hi : (r0 :: rs)[t % (r0 :: rs).length] = i
      have himem : i ∈ r0 :: rs := by rw [← hi]; exact List.getElem_mem hlt
      obtain ⟨q1, q2⟩ := hrs i (by rw [hr]; exact himem)
      have hisz : i < listed.size := by rw [hs]; exact List.mem_range.1 (List.mem_filter.1 q1).1
      have hrem := remOf_set (n := ops.size) hisz
      obtain ⟨l, hl1, hl2⟩ := ih (t := t / (r0 :: rs).length) (listed := listed.setIfInBounds i true) (acc := i :: acc) (by simpa using hs) (by
        rw [hrem, List.length_erase_of_mem q1]; omega)
      refine ⟨i :: l, ?_, q1, q2, ?_⟩
      · rw [hl1]; simp
      · rw [← hrem]; exact hl2

theorem schedule_valid (hb : backward ops = true) (t : Nat) : Valid ops (List.range ops.size) (Region.schedule true ops t) := by
  have h0 : remOf ops.size (Array.replicate ops.size false) = List.range ops.size := by
    unfold remOf
    rw [List.filter_eq_self]
    intro i hi
    have := List.mem_range.1 hi
    simp [Array.getD_eq_getD_getElem?, this]
  obtain ⟨l, h1, h2⟩ := lin_valid (ops := ops) hb (fuel := ops.size) (t := t) (listed := Array.replicate ops.size false) (acc := []) (by simp) (by rw [h0]; simp)
  unfold Region.schedule Region.linearise
  simp only [Bool.true_or, if_true]
  rw [h1, List.reverse_nil, List.nil_append]
  rw [h0] at h2
  exact h2
end
end Go.Ev
