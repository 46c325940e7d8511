/-
  ProdS: lemmas on what Go functions of this seat come to (for whatever arguments, as each says). No condition but those that stand in each lemma.
-/
import Derived.Test.YtliakpomlkgpnaaProdR
namespace Go.Proofs.Ytliakpomlkgpnaa
open Go Go.Ev
set_option maxRecDepth 100000
set_option linter.unusedVariables false
set_option linter.unusedSimpArgs false

theorem bcs_len (b : BV) : b.cs.length = 9 := rfl
theorem logCs_get (l : List BV) (k j : Nat) (hk : k < l.length) (hj : j < 9) (h : 9 * k + j < (logCs l).length) : (logCs l)[9 * k + j] = (l[k].cs)[j]'(by rw [bcs_len]; exact hj) := by
  induction l generalizing k with
  | nil => simp at hk
  | cons s l ih =>
    cases k with
    | zero =>
      have : logCs (s :: l) = s.cs ++ logCs l := rfl
      simp only [this, List.getElem_cons_zero, Nat.mul_zero, Nat.zero_add]
      rw [List.getElem_append_left]
    | succ k =>
      have e : logCs (s :: l) = s.cs ++ logCs l := rfl
      have h3 := bcs_len s
      simp only [e, List.getElem_cons_succ]
      rw [List.getElem_append_right (by omega)]
      have := ih k (by simpa using hk) (by rw [e, List.length_append] at h; omega)
      rw [← this]
      congr 1
      omega

theorem log_at {w : World} {q : Option Addr × Nat × Nat} {l : List BV} (h : Own w 30 9 q (logCs l)) {k : Nat} (hk : k < l.length) : ∃ a, idxA q.1 q.2.1 9 (k : Int) = some a ∧ ldN w a 0 9 = some l[k].cs := by
  have hl := h.len
  rw [logCs_len] at hl
  obtain ⟨_, hc⟩ := h.slC
  obtain ⟨b, off, h1, h2, h3⟩ := hc (by rw [logCs_len]; omega)
  refine ⟨⟨b, off + k * 9, none⟩, ?_, ?_⟩
  · unfold idxA
    rw [if_pos (by omega), h1]
    simp only [Option.bind_some, addr_add, Int.toNat_natCast]
  · have : ldN w ⟨b, off + k * 9, none⟩ 0 (l[k].cs).length = some l[k].cs := ldN_of_cells fun j hj => by
      have hj3 : j < 9 := by rw [bcs_len] at hj; exact hj
      have hlt : 9 * k + j < (logCs l).length := by rw [logCs_len]; omega
      have := h3 (9 * k + j) hlt
      rw [logCs_get l k j hk hj3 hlt] at this
      rw [← this, addr_add]
      congr 2
      omega
    exact this

/-! ## what lies in the log -/
theorem lay_snoc (l : List BV) (b : BV) : lay (l ++ [b]) = layStep (lay l) b := by unfold lay; rw [List.foldl_append]; rfl

theorem lay_rule {P : Ly → Prop} {l : List BV} (h0 : P ([], [], [], 0)) (hs : ∀ s b, b ∈ l → P s → P (layStep s b)) : P (lay l) := by
  unfold lay
  generalize ([], [], [], (0 : Int)) = s at h0 ⊢
  induction l generalizing s with
  | nil => exact h0
  | cons a l ih => exact ih (fun s b hb => hs s b (List.mem_cons_of_mem _ hb)) _ (hs s a List.mem_cons_self h0)

theorem lay_mem {l : List BV} {c : BV} (hc : c ∈ (lay l).2.2.1) : ∃ b ∈ l, ∃ at_, (-9223372036854775808 ≤ at_ ∧ at_ < 9223372036854775808) ∧ c = { b with base := at_ } := by
  have : (∀ c ∈ (lay l).2.2.1, ∃ b ∈ l, ∃ at_, (-9223372036854775808 ≤ at_ ∧ at_ < 9223372036854775808) ∧ c = { b with base := at_ }) ∧ (-9223372036854775808 ≤ (lay l).2.2.2 ∧ (lay l).2.2.2 < 9223372036854775808) := by
    refine lay_rule (P := fun s => (∀ c ∈ s.2.2.1, ∃ b ∈ l, ∃ at_, (-9223372036854775808 ≤ at_ ∧ at_ < 9223372036854775808) ∧ c = { b with base := at_ }) ∧ (-9223372036854775808 ≤ s.2.2.2 ∧ s.2.2.2 < 9223372036854775808)) ⟨by simp, by simp⟩ ?_
    intro s b hb ⟨h1, h2⟩
    unfold layStep
    simp only
    split
    · refine ⟨?_, wrap_in _⟩
      intro c hc
      simp only [List.mem_append, List.mem_singleton] at hc
      rcases hc with hc | rfl
      · exact h1 c hc
      · exact ⟨b, hb, _, h2, rfl⟩
    · exact ⟨h1, h2⟩
  exact this.1 c hc

theorem lay_ok {W : World} {l : List BV} (h : ∀ b ∈ l, BOk W b) {c : BV} (hc : c ∈ (lay l).2.2.1) : BOk W c := by
  obtain ⟨b, hb, a, ha, rfl⟩ := lay_mem hc
  have := h b hb
  exact ⟨this.ls, this.n, ha, this.r.2⟩

theorem args_ok {W : World} {x0 : (Ty.slice BT).Val} (h0 : (Ty.slice BT).At W [.slice x0.1.1 x0.1.2.1 x0.1.2.2] x0) (hs : Ty.Fits (.slice BT) x0) : (∀ b ∈ x0.2.map toB, BOk W b) ∧ x0.2.length ≤ 1954687338211 := by
  refine ⟨fun b hb' => ?_, ?_⟩
  · obtain ⟨y, hy, rfl⟩ := List.mem_map.mp hb'
    obtain ⟨i, hi, rfl⟩ := List.getElem_of_mem hy
    obtain ⟨_, cs, _, _, _, g3⟩ := slice_get h0 hi
    exact (toB_at g3 (fits_vs hs (List.getElem_mem hi))).2
  · exact fits_len hs

/-! ## the numbers of one producer and epoch -/
def nxt (L : List BV) (p e : Int) : Int := L.foldl (fun n c => if c.pid = p ∧ c.pe = e ∧ c.con = false then IntKind.i64.wrap (c.seq + (c.q.2.1 : Int)) else n) 0
theorem nxt_snoc (L : List BV) (c : BV) (p e : Int) : nxt (L ++ [c]) p e = if c.pid = p ∧ c.pe = e ∧ c.con = false then IntKind.i64.wrap (c.seq + (c.q.2.1 : Int)) else nxt L p e := by
  unfold nxt; rw [List.foldl_append]; rfl
theorem nxt_zero {L : List BV} {p e : Int} (h : ∀ c ∈ L, c.pid = p → c.pe ≠ e) : nxt L p e = 0 := by
  unfold nxt
  generalize (0 : Int) = z
  induction L generalizing z with
  | nil => rfl
  | cons a L ih =>
    rw [List.foldl_cons]
    have := h a List.mem_cons_self
    rw [if_neg (by rintro ⟨h1, h2, _⟩; exact this h1 h2)]
    exact ih (fun c hc => h c (List.mem_cons_of_mem _ hc)) z

/-- it may stand behind M -/
def OnceAt (M : List BV) (b : BV) : Prop := b.pid = 0 ∨ (∀ c ∈ M, c.pid = b.pid → c.pe ≤ b.pe) ∧ (b.con = true ∨ b.seq = nxt M b.pid b.pe)

structure Nums (A : List (Int × PV)) (L : List BV) : Prop where
  none_ : ∀ p, p ≠ 0 → kget A p = none → ∀ c ∈ L, c.pid ≠ p
  some_ : ∀ p v, p ≠ 0 → kget A p = some v → (∀ c ∈ L, c.pid = p → c.pe ≤ v.1) ∧ nxt L p v.1 = v.2.1
  once : ∀ i (h : i < L.length), OnceAt (L.take i) L[i]

theorem once_of_chk {A : List (Int × PV)} {L : List BV} (h : Nums A L) {b : BV} (h1 : (chkA A b).2.2 = 0) (h2 : (chkA A b).2.1 = false) : OnceAt L b := by
  by_cases hp : b.pid = 0
  · exact .inl hp
  · right
    unfold chkA at h1 h2
    by_cases hc : chkB b ≠ 0
    · rw [if_pos hc] at h1; exact absurd h1 hc
    · rw [if_neg hc, if_neg hp] at h1 h2
      cases hk : kget A b.pid with
      | none =>
        have hn := h.none_ _ hp hk
        refine ⟨fun c hc hcp => absurd hcp (hn c hc), ?_⟩
        rw [hk] at h1
        simp only at h1
        cases hcon : b.con with
        | true => exact .inl rfl
        | false =>
          right
          rw [nxt_zero (fun c hc hcp => absurd hcp (hn c hc))]
          rw [hcon] at h1
          simp only [Bool.false_eq_true, if_false] at h1
          split at h1
          · simp at h1
          · rename_i hq; simpa using hq
      | some v =>
        obtain ⟨s1, s2⟩ := h.some_ _ v hp hk
        rw [hk] at h1 h2
        simp only at h1 h2
        by_cases hl : b.pe < v.1
        · rw [if_pos hl] at h1; simp at h1
        · rw [if_neg hl] at h1 h2
          refine ⟨fun c hc hcp => by have := s1 c hc hcp; omega, ?_⟩
          cases hcon : b.con with
          | true => exact .inl rfl
          | false =>
            right
            rw [hcon] at h1 h2
            simp only [Bool.false_eq_true, if_false] at h1 h2
            by_cases hg : b.pe > v.1
            · rw [if_pos hg] at h1
              rw [nxt_zero (fun c hc hcp he => by have := s1 c hc hcp; omega)]
              split at h1
              · simp at h1
              · rename_i hq; simpa using hq
            · rw [if_neg hg] at h1 h2
              have he : b.pe = v.1 := by omega
              cases hf : v.2.2.1.find? (isB b) with
              | some t => rw [hf] at h2; simp at h2
              | none =>
                rw [hf] at h1
                simp only at h1
                rw [he, s2]
                split at h1
                · simp at h1
                · rename_i hq; simpa using hq

theorem nums_step {A : List (Int × PV)} {abl : List Sn} {L : List BV} (h : Nums A L) {b : BV} (hb : b.vs.length = b.q.2.1) (h1 : (chkA A b).2.2 = 0) (h2 : (chkA A b).2.1 = false) : Nums (apA A abl b).1 (L ++ [b]) := by
  have ho := once_of_chk h h1 h2
  have honce : ∀ i (h : i < (L ++ [b]).length), OnceAt ((L ++ [b]).take i) (L ++ [b])[i] := by
    intro i hi
    rcases Nat.lt_or_ge i L.length with hl | hl
    · rw [List.take_append_of_le_length (by omega), List.getElem_append_left hl]; exact h.once i hl
    · have : i = L.length := by simp at hi; omega
      subst this
      simpa using ho
  by_cases hp : b.pid = 0
  · have e : (apA A abl b).1 = A := by unfold apA; rw [if_pos hp]
    rw [e]
    refine ⟨fun p hp0 hk c hc => ?_, fun p v hp0 hk => ?_, honce⟩
    · simp only [List.mem_append, List.mem_singleton] at hc
      rcases hc with hc | rfl
      · exact h.none_ p hp0 hk c hc
      · omega
    · obtain ⟨s1, s2⟩ := h.some_ p v hp0 hk
      refine ⟨fun c hc hcp => ?_, ?_⟩
      · simp only [List.mem_append, List.mem_singleton] at hc
        rcases hc with hc | rfl
        · exact s1 c hc hcp
        · omega
      · rw [nxt_snoc, if_neg (by omega)]; exact s2
  · have e : (apA A abl b).1 = kups A b.pid (fun o => stepV b (oldV b (o.getD (b.pe, 0, [], -1)))) := by unfold apA; rw [if_neg hp]
    rw [e]
    rcases ho with ho | ⟨o1, o2⟩
    · exact absurd ho hp
    refine ⟨fun p hp0 hk c hc => ?_, fun p v hp0 hk => ?_, honce⟩
    · rw [kget_ups] at hk
      split at hk
      · cases hk
      · rename_i hn
        simp only [List.mem_append, List.mem_singleton] at hc
        rcases hc with hc | rfl
        · exact h.none_ p hp0 hk c hc
        · exact fun he => hn he.symm
    · rw [kget_ups] at hk
      split at hk
      · rename_i hn
        subst hn
        cases hk
        have hle : ∀ o : Option PV, kget A b.pid = o → (stepV b (oldV b (o.getD (b.pe, 0, [], -1)))).1 = b.pe ∧ (oldV b (o.getD (b.pe, 0, [], -1))).2.1 = nxt L b.pid b.pe := by
          intro o ho
          cases o with
          | none =>
            have hn := h.none_ _ hp0 ho
            refine ⟨by unfold stepV; split <;> simp [oldV], ?_⟩
            rw [nxt_zero (fun c hc hcp => absurd hcp (hn c hc))]
            simp [oldV]
          | some v =>
            obtain ⟨s1, s2⟩ := h.some_ _ v hp0 ho
            have hge : ¬ b.pe < v.1 := by
              intro hl
              unfold chkA at h1
              by_cases hc : chkB b ≠ 0
              · rw [if_pos hc] at h1; exact absurd h1 hc
              · rw [if_neg hc, if_neg hp, ho] at h1
                simp [hl] at h1
            have e1 : (stepV b (oldV b v)).1 = (oldV b v).1 := by unfold stepV; split <;> rfl
            simp only [Option.getD_some]
            rw [e1]
            unfold oldV
            split
            · refine ⟨rfl, ?_⟩
              rw [nxt_zero (fun c hc hcp he => by have := s1 c hc hcp; omega)]
            · have : v.1 = b.pe := by omega
              exact ⟨this, by rw [← this]; exact s2.symm⟩
        obtain ⟨e1, e2⟩ := hle _ rfl
        refine ⟨fun c hc hcp => ?_, ?_⟩
        · rw [e1]
          simp only [List.mem_append, List.mem_singleton] at hc
          rcases hc with hc | rfl
          · exact o1 c hc hcp
          · omega
        · rw [e1, nxt_snoc]
          unfold stepV
          cases hcon : b.con with
          | true => simp [e2]
          | false =>
            have hsz : (b.sz : Int) = (b.q.2.1 : Int) := by unfold BV.sz; rw [hcon]; simp [hb]
            simp [hsz]
      · rename_i hn
        obtain ⟨s1, s2⟩ := h.some_ p v hp0 hk
        refine ⟨fun c hc hcp => ?_, ?_⟩
        · simp only [List.mem_append, List.mem_singleton] at hc
          rcases hc with hc | rfl
          · exact s1 c hc hcp
          · exact absurd hcp.symm hn
        · rw [nxt_snoc, if_neg (fun hh => hn hh.1.symm)]; exact s2

theorem lay_nums {l : List BV} (hl : ∀ b ∈ l, b.vs.length = b.q.2.1) : Nums (lay l).1 (lay l).2.2.1 := by
  refine lay_rule (P := fun s => Nums s.1 s.2.2.1) ⟨by simp, fun p v _ h => by simp [kget_nil] at h, fun i h => by simp at h⟩ ?_
  intro s b hb h
  unfold layStep
  simp only
  split
  · rename_i hc
    exact nums_step h (b := { b with base := s.2.2.2 }) (hl b hb) hc.1 hc.2
  · exact h
end Go.Proofs.Ytliakpomlkgpnaa
