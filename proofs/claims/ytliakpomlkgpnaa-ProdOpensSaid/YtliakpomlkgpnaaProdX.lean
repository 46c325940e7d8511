/-
  ProdX: lemmas on what Go functions of this seat come to (for whatever arguments, as each says). No condition but those that stand in each lemma.
-/
import Derived.Test.YtliakpomlkgpnaaProdV
namespace Go.Proofs.Ytliakpomlkgpnaa
open Go Go.Ev
set_option maxRecDepth 100000
set_option linter.unusedVariables false
set_option linter.unusedSimpArgs false

def isOp (b : BV) : Bool := b.txn && !b.con
def closedIn (b : BV) (R : List BV) : Bool := R.any fun c => c.con && (c.pid == b.pid)
/-- what of P is open, where R comes behind it -/
def openW : List BV → List BV → List BV
  | [], _ => []
  | b :: P, R => if isOp b = true ∧ closedIn b (P ++ R) = false then b :: openW P R else openW P R

theorem openW_snoc (P : List BV) (b : BV) (R : List BV) : openW (P ++ [b]) R = openW P (b :: R) ++ (if isOp b = true ∧ closedIn b R = false then [b] else []) := by
  induction P with
  | nil => simp only [List.nil_append, openW]
  | cons a P ih =>
    simp only [List.cons_append, openW, ih, List.append_assoc, List.nil_append]
    split <;> simp

theorem openW_sub (P R : List BV) : (openW P R).Sublist P := by
  induction P with
  | nil => exact List.Sublist.refl _
  | cons a P ih =>
    unfold openW
    split
    · exact ih.cons_cons a
    · exact ih.cons a

theorem openW_isOp (P R : List BV) : ∀ c ∈ openW P R, isOp c = true := by
  induction P with
  | nil => simp [openW]
  | cons a P ih =>
    unfold openW
    split
    · rename_i h
      intro c hc
      rcases List.mem_cons.mp hc with rfl | hc
      · exact h.1
      · exact ih c hc
    · exact ih

theorem openW_last (P : List BV) (b : BV) : openW P [b] = if b.con then (openW P []).filter (fun c => !(b.pid == c.pid)) else openW P [] := by
  induction P with
  | nil => simp [openW]
  | cons a P ih =>
    simp only [openW, ih]
    have hc : closedIn a (P ++ [b]) = (closedIn a (P ++ []) || (b.con && (b.pid == a.pid))) := by simp [closedIn]
    rw [hc]
    cases hcon : b.con with
    | false => simp
    | true =>
      simp only [if_true, Bool.true_and]
      by_cases h1 : isOp a = true ∧ closedIn a (P ++ []) = false
      · rw [if_pos h1]
        by_cases h2 : (b.pid == a.pid) = true
        · rw [if_neg (by simp [h2]), List.filter_cons_of_neg (by simp [h2])]
        · rw [if_pos ⟨h1.1, by rw [h1.2]; simp at h2; simp [h2]⟩, List.filter_cons_of_pos (by simp at h2; simp [h2])]
      · rw [if_neg h1, if_neg (by rintro ⟨g1, g2⟩; apply h1; refine ⟨g1, ?_⟩; simp at g2; simp [g2.1])]

def opens (L : List BV) : List BV := openW L []
theorem opens_snoc (L : List BV) (b : BV) : opens (L ++ [b]) = (if b.con then (opens L).filter (fun c => !(b.pid == c.pid)) else opens L) ++ (if isOp b then [b] else []) := by
  unfold opens
  rw [openW_snoc, openW_last]
  simp [closedIn]

theorem opens_mem {L : List BV} {i : Nat} (hi : i < L.length) (h1 : isOp L[i] = true) (h2 : closedIn L[i] (L.drop (i + 1)) = false) : L[i] ∈ opens L := by
  have key : ∀ (P : List BV) (i : Nat) (hi : i < P.length), isOp P[i] = true → closedIn P[i] (P.drop (i + 1)) = false → P[i] ∈ openW P [] := by
    intro P
    induction P with
    | nil => intro i hi; simp at hi
    | cons a P ih =>
      intro i hi g1 g2
      cases i with
      | zero =>
        simp at g1 g2 ⊢
        unfold openW
        rw [if_pos ⟨g1, by simpa using g2⟩]
        exact List.mem_cons_self
      | succ i =>
        simp at g1 g2 ⊢
        have := ih i (by simpa using hi) g1 (by simpa using g2)
        unfold openW
        split
        · exact List.mem_cons_of_mem _ this
        · exact this
  exact key L i hi h1 h2

/-- of one producer -/
def ofP (p : Int) (c : BV) : Bool := c.pid == p

structure Opn (A : List (Int × PV)) (L : List BV) (e : Int) : Prop where
  lasts : Lasts A L
  le : ∀ c ∈ L, 0 ≤ c.base ∧ c.base ≤ e
  up : L.Pairwise (fun c d => c.base ≤ d.base)
  e0 : 0 ≤ e
  e1 : e ≤ 16 * L.length
  nz : ∀ v, kget A 0 = some v → False
  op0 : ∀ p, (opens L).filter (ofP p) = [] → ∀ v, kget A p = some v → v.2.2.2 < 0
  op1 : ∀ p c l, (opens L).filter (ofP p) = c :: l → ∃ v, kget A p = some v ∧ v.2.2.2 = c.base

theorem chkB_txn {b : BV} (h : chkB b = 0) : (b.txn = true → b.pid ≠ 0) ∧ (b.con = true → b.pid ≠ 0) ∧ 0 ≤ b.base := by
  unfold chkB at h
  split at h
  · cases h
  · rename_i h1
    split at h
    · cases h
    · rename_i h2
      refine ⟨fun ht hp => ?_, fun hc hp => ?_, by omega⟩
      · apply h2; simp [formB, ht, hp]
      · apply h2; simp [formB, hc, hp]

theorem chkB_le {b : BV} (h : chkB b = 0) : b.sz ≤ 16 := by
  cases hc : b.con with
  | true => unfold BV.sz; rw [hc]; simp
  | false => have := chkB_sz h hc; unfold BV.sz; rw [hc]; simp; omega

theorem opn_step {A : List (Int × PV)} {abl : List Sn} {L : List BV} {e : Int} (h : Opn A L e) {b : BV} (hb : b.vs.length = b.q.2.1) (hL : L.length < 5000000000000) (hbe : b.base = e) (h1 : (chkA A b).2.2 = 0) (h2 : (chkA A b).2.1 = false) :
    Opn (apA A abl b).1 (L ++ [b]) (IntKind.i64.wrap (e + (b.sz : Int))) := by
  have hl := lasts_step (abl := abl) h.lasts hb hL h1 h2
  have hc0 : chkB b = 0 := hl.chk b (by simp)
  obtain ⟨t1, t2, t3⟩ := chkB_txn hc0
  have hsz := chkB_le hc0
  have e0 := h.e0
  have e1 := h.e1
  have hw : IntKind.i64.wrap (e + (b.sz : Int)) = e + (b.sz : Int) := by apply wrap_i64 <;> omega
  rw [hw]
  have hlen : ((L ++ [b]).length : Int) = L.length + 1 := by simp
  have base : ∀ c ∈ L ++ [b], 0 ≤ c.base ∧ c.base ≤ e + (b.sz : Int) := by
    intro c hc
    simp only [List.mem_append, List.mem_singleton] at hc
    rcases hc with hc | rfl
    · have := h.le c hc; omega
    · omega
  have hup : (L ++ [b]).Pairwise (fun c d => c.base ≤ d.base) := by
    rw [List.pairwise_append]
    refine ⟨h.up, by simp, ?_⟩
    intro c hc d hd
    simp only [List.mem_singleton] at hd
    subst hd
    have := h.le c hc
    omega
  by_cases hp : b.pid = 0
  · have ee : (apA A abl b).1 = A := by unfold apA; rw [if_pos hp]
    have ht : b.txn = false := by cases ht : b.txn with | false => rfl | true => exact absurd hp (t1 ht)
    have hc : b.con = false := by cases hc : b.con with | false => rfl | true => exact absurd hp (t2 hc)
    have eo : opens (L ++ [b]) = opens L := by rw [opens_snoc, hc]; simp [isOp, ht]
    rw [ee] at hl ⊢
    exact ⟨hl, base, hup, by omega, by omega, h.nz, by rw [eo]; exact h.op0, by rw [eo]; exact h.op1⟩
  · have ee : (apA A abl b).1 = kups A b.pid (fun o => stepV b (oldV b (o.getD (b.pe, 0, [], -1)))) := by unfold apA; rw [if_neg hp]
    rw [ee] at hl ⊢
    -- what was open
    obtain ⟨o, ho⟩ : ∃ o, (oldV b ((kget A b.pid).getD (b.pe, 0, [], -1))).2.2.2 = o := ⟨_, rfl⟩
    have hold : (oldV b ((kget A b.pid).getD (b.pe, 0, [], -1))).2.2.2 = ((kget A b.pid).getD (b.pe, 0, [], -1)).2.2.2 := by unfold oldV; split <;> rfl
    have hnew : (stepV b (oldV b ((kget A b.pid).getD (b.pe, 0, [], -1)))).2.2.2 = if b.con then -1 else if b.txn = true ∧ o < 0 then b.base else o := by
      unfold stepV
      rw [← ho]
      split <;> rfl
    have o0 : (opens L).filter (ofP b.pid) = [] → o < 0 := by
      intro hf
      rw [← ho, hold]
      cases hk : kget A b.pid with
      | none => simp
      | some v => exact h.op0 _ hf v hk
    have o1 : ∀ c l, (opens L).filter (ofP b.pid) = c :: l → o = c.base := by
      intro c l hf
      obtain ⟨v, hk, hv⟩ := h.op1 _ c l hf
      rw [← ho, hold, hk]
      exact hv
    have keep : ∀ p, p ≠ b.pid → (opens (L ++ [b])).filter (ofP p) = (opens L).filter (ofP p) := by
      intro p hpb
      rw [opens_snoc, List.filter_append]
      have e2 : List.filter (ofP p) (if isOp b then [b] else []) = [] := by
        split
        · rw [List.filter_cons_of_neg (by simp [ofP]; omega)]; rfl
        · rfl
      rw [e2, List.append_nil]
      split
      · rw [List.filter_filter]
        apply List.filter_congr
        intro c _
        unfold ofP
        by_cases hcp : c.pid = p
        · have : ¬ b.pid = c.pid := by omega
          simp [hcp]; omega
        · simp [hcp]
      · rfl
    have mine : (opens (L ++ [b])).filter (ofP b.pid) = (if b.con then [] else (opens L).filter (ofP b.pid)) ++ (if isOp b then [b] else []) := by
      rw [opens_snoc, List.filter_append]
      congr 1
      · split
        · rw [List.filter_filter, List.filter_eq_nil_iff]
          intro c _
          simp [ofP]
          intro hh
          exact hh.symm
        · rfl
      · split
        · rw [List.filter_cons_of_pos (by simp [ofP])]; rfl
        · rfl
    refine ⟨hl, base, hup, by omega, by omega, ?_, ?_, ?_⟩
    · intro v hv
      rw [kget_ups, if_neg (fun hh => hp hh.symm)] at hv
      exact h.nz v hv
    · intro p hf v hv
      by_cases hpb : p = b.pid
      · subst hpb
        rw [kget_ups, if_pos rfl] at hv
        cases hv
        rw [mine] at hf
        rw [hnew]
        cases hcon : b.con with
        | true => simp
        | false =>
          rw [hcon] at hf
          simp only [Bool.false_eq_true, if_false, List.append_eq_nil_iff] at hf
          obtain ⟨f1, f2⟩ := hf
          have := o0 f1
          have hnt : b.txn = false := by cases ht : b.txn with | false => rfl | true => simp [isOp, ht, hcon] at f2
          simp [hnt]
          exact this
      · rw [kget_ups, if_neg hpb] at hv
        rw [keep p hpb] at hf
        exact h.op0 p hf v hv
    · intro p c l hf
      by_cases hpb : p = b.pid
      · subst hpb
        refine ⟨_, by rw [kget_ups, if_pos rfl], ?_⟩
        rw [hnew]
        rw [mine] at hf
        cases hcon : b.con with
        | true => rw [hcon] at hf; simp [isOp, hcon] at hf
        | false =>
          rw [hcon] at hf
          simp only [Bool.false_eq_true, if_false] at hf ⊢
          cases hF : (opens L).filter (ofP b.pid) with
          | nil =>
            rw [hF] at hf
            have := o0 hF
            cases ht : b.txn with
            | true =>
              simp [isOp, hcon, ht] at hf
              simp [this, hf.1]
            | false => simp [isOp, ht] at hf
          | cons d l' =>
            rw [hF] at hf
            have hd := o1 d l' hF
            have hdL : d ∈ L := by
              have : d ∈ (opens L).filter (ofP b.pid) := by rw [hF]; exact List.mem_cons_self
              exact (openW_sub L []).subset (List.mem_filter.mp this).1
            have := h.le d hdL
            have hdc : d = c := by simpa using (List.cons.inj hf).1
            rw [if_neg (by omega), hd, hdc]
      · rw [keep p hpb] at hf
        obtain ⟨v, hv1, hv2⟩ := h.op1 p c l hf
        exact ⟨v, by rw [kget_ups, if_neg hpb]; exact hv1, hv2⟩

theorem lay_opn {l : List BV} (hl : ∀ b ∈ l, b.vs.length = b.q.2.1) (hn : l.length < 5000000000000) : Opn (lay l).1 (lay l).2.2.1 (lay l).2.2.2 := by
  have key : ∀ n, n ≤ l.length → Opn (lay (l.take n)).1 (lay (l.take n)).2.2.1 (lay (l.take n)).2.2.2 ∧ (lay (l.take n)).2.2.1.length ≤ n := by
    intro n
    induction n with
    | zero => exact fun _ => ⟨⟨lay_lasts (l := l.take 0) (by simp) (by simp), by simp [lay], by simp [lay], by simp [lay], by simp [lay], fun v h => by simp [lay, kget_nil] at h, fun p _ v h => by simp [lay, kget_nil] at h, fun p c l h => by simp [lay, opens, openW] at h⟩, by simp [lay]⟩
    | succ n ih =>
      intro hle
      obtain ⟨i1, i2⟩ := ih (by omega)
      rw [List.take_succ_eq_append_getElem (by omega), lay_snoc]
      unfold layStep
      simp only
      split
      · rename_i hc
        exact ⟨opn_step i1 (b := { l[n] with base := (lay (l.take n)).2.2.2 }) (hl l[n] (List.getElem_mem _)) (by omega) rfl hc.1 hc.2, by simp; omega⟩
      · exact ⟨i1, by omega⟩
  have := (key l.length (Nat.le_refl _)).1
  rwa [List.take_length] at this

/-- an open one is known -/
theorem opn_known {A : List (Int × PV)} {L : List BV} {e : Int} (h : Opn A L e) {b : BV} (hb : b ∈ opens L) : b.pid ≠ 0 ∧ ∃ v, kget A b.pid = some v ∧ 0 ≤ v.2.2.2 ∧ v.2.2.2 ≤ b.base := by
  have hbL := (openW_sub L []).subset hb
  have hpid : b.pid ≠ 0 := by
    have h1 := openW_isOp L [] b hb
    exact (chkB_txn (h.lasts.chk b hbL)).1 (by unfold isOp at h1; simp at h1; exact h1.1)
  refine ⟨hpid, ?_⟩
  have hmem : b ∈ (opens L).filter (ofP b.pid) := List.mem_filter.mpr ⟨hb, by simp [ofP]⟩
  cases hF : (opens L).filter (ofP b.pid) with
  | nil => rw [hF] at hmem; simp at hmem
  | cons c l =>
    obtain ⟨v, hv, ho⟩ := h.op1 _ c l hF
    refine ⟨v, hv, ?_⟩
    rw [ho]
    have hs : ((opens L).filter (ofP b.pid)).Sublist L := (List.filter_sublist).trans (openW_sub L [])
    have hup := h.up.sublist hs
    rw [hF] at hup hmem
    have hc : c ∈ L := hs.subset (by rw [hF]; exact List.mem_cons_self)
    refine ⟨(h.le c hc).1, ?_⟩
    rcases List.mem_cons.mp hmem with rfl | hm
    · exact Int.le_refl _
    · exact (List.pairwise_cons.mp hup).1 b hm

/-- the first open one is the least -/
theorem opn_least {A : List (Int × PV)} {L : List BV} {e : Int} (h : Opn A L e) {n : Int} {f : Bool} (h0 : f = false → n = 0 ∧ ∀ p v, kget A p = some v → v.2.2.2 < 0)
    (h1 : f = true → (∃ p v, kget A p = some v ∧ v.2.2.2 = n) ∧ 0 ≤ n ∧ ∀ p v, kget A p = some v → 0 ≤ v.2.2.2 → n ≤ v.2.2.2) :
    f = !(opens L).isEmpty ∧ n = ((opens L).head?.map (·.base)).getD 0 := by
  have hup := h.up.sublist (openW_sub L [])
  cases f with
  | false =>
    obtain ⟨n0, a0⟩ := h0 rfl
    cases hO : opens L with
    | nil => simp [n0]
    | cons c l =>
      obtain ⟨_, v, hv, hv0, _⟩ := opn_known h (b := c) (by rw [hO]; exact List.mem_cons_self)
      have := a0 _ v hv
      omega
  | true =>
    obtain ⟨⟨p, v, hv, hvn⟩, n0, hmin⟩ := h1 rfl
    cases hF : (opens L).filter (ofP p) with
    | nil => have := h.op0 p hF v hv; omega
    | cons c l =>
      obtain ⟨v', hv', ho⟩ := h.op1 p c l hF
      rw [hv] at hv'
      cases hv'
      have hcm : c ∈ opens L := by
        have : c ∈ (opens L).filter (ofP p) := by rw [hF]; exact List.mem_cons_self
        exact (List.mem_filter.mp this).1
      have hup' : (opens L).Pairwise (fun c d => c.base ≤ d.base) := hup
      cases hO : opens L with
      | nil => rw [hO] at hcm; simp at hcm
      | cons d l' =>
        rw [hO] at hcm hup'
        have hle : d.base ≤ c.base := by
          rcases List.mem_cons.mp hcm with rfl | hm
          · exact Int.le_refl _
          · exact (List.pairwise_cons.mp hup').1 c hm
        obtain ⟨_, u, hu, hu0, hu1⟩ := opn_known h (b := d) (by rw [hO]; exact List.mem_cons_self)
        have := hmin _ u hu hu0
        simp
        omega
end Go.Proofs.Ytliakpomlkgpnaa
