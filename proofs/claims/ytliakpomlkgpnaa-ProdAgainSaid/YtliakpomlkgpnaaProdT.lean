/-
  ProdT: lemmas on what Go functions of this seat come to (for whatever arguments, as each says). No condition but those that stand in each lemma.
-/
import Derived.Test.YtliakpomlkgpnaaProdS
namespace Go.Proofs.Ytliakpomlkgpnaa
open Go Go.Ev
set_option maxRecDepth 100000
set_option linter.unusedVariables false
set_option linter.unusedSimpArgs false

/-- the batches of a producer and an epoch, as the table remembers them -/
def isE (p e : Int) (c : BV) : Bool := decide (c.pid = p ∧ c.pe = e ∧ c.con = false)
def snB (b : BV) : Sn := (b.seq, (b.sz : Int), b.base)
def ent (L : List BV) (p e : Int) : List Sn := (L.filter (isE p e)).map snB
theorem ent_app (L M : List BV) (p e : Int) : ent (L ++ M) p e = ent L p e ++ ent M p e := by simp [ent]
theorem ent_nil {L : List BV} {p e : Int} (h : ∀ c ∈ L, c.pid = p → c.pe ≠ e) : ent L p e = [] := by
  unfold ent
  rw [List.filter_eq_nil_iff.mpr, List.map_nil]
  intro c hc
  have := h c hc
  simp only [isE, decide_eq_true_eq]
  rintro ⟨h1, h2, _⟩
  exact this h1 h2
theorem ent_one (c : BV) (p e : Int) : ent [c] p e = if c.pid = p ∧ c.pe = e ∧ c.con = false then [snB c] else [] := by
  unfold ent
  by_cases h : c.pid = p ∧ c.pe = e ∧ c.con = false
  · rw [List.filter_cons_of_pos (by simp only [isE, decide_eq_true_eq]; exact h), if_pos h]; rfl
  · rw [List.filter_cons_of_neg (by simp only [isE, decide_eq_true_eq]; exact h), if_neg h]; rfl

structure Seqs (E : List Sn) (n : Int) : Prop where
  up : E.Pairwise (fun s t => s.1 < t.1)
  lt : ∀ s ∈ E, s.1 < n

theorem seqs_nil (n : Int) : Seqs [] n := ⟨List.Pairwise.nil, by intro s hs; cases hs⟩

structure Lasts (A : List (Int × PV)) (L : List BV) : Prop where
  nums : Nums A L
  chk : ∀ c ∈ L, chkB c = 0
  len : ∀ c ∈ L, c.vs.length = c.q.2.1
  all : ∀ p v, p ≠ 0 → kget A p = some v → v.2.2.1 = (ent L p v.1).drop ((ent L p v.1).length - 5) ∧ Seqs (ent L p v.1) v.2.1 ∧ 0 ≤ v.2.1 ∧ v.2.1 ≤ 16 * L.length

theorem chkB_sz {b : BV} (h : chkB b = 0) (hc : b.con = false) : 1 ≤ b.vs.length ∧ b.vs.length ≤ 16 ∧ 0 ≤ b.seq := by
  unfold chkB at h
  split at h
  · cases h
  · rename_i h1
    split at h
    · cases h
    · rename_i h2
      split at h
      · cases h
      · rename_i h3
        have : b.vs.length ≠ 0 := by
          intro h0
          apply h2
          simp [formB, hc, h0]
        omega

theorem cut5_drop (E : List Sn) (x : Sn) : cut5 (E.drop (E.length - 5) ++ [x]) = (E ++ [x]).drop ((E ++ [x]).length - 5) := by
  have hl : (E ++ [x]).length = E.length + 1 := by simp
  have hd : (E.drop (E.length - 5) ++ [x]).length = E.length - (E.length - 5) + 1 := by simp
  unfold cut5
  rw [hl]
  by_cases h : E.length < 5
  · have e0 : E.length - 5 = 0 := by omega
    have e1 : E.length + 1 - 5 = 0 := by omega
    rw [if_neg (by rw [hd]; omega), e0, e1, List.drop_zero, List.drop_zero]
  · rw [if_pos (by rw [hd]; omega)]
    have e2 : E.drop (E.length - 5) ++ [x] = (E ++ [x]).drop (E.length - 5) := by
      rw [List.drop_append_of_le_length (by omega)]
    rw [e2, List.drop_drop]
    congr 1
    omega

theorem lasts_step {A : List (Int × PV)} {abl : List Sn} {L : List BV} (h : Lasts A L) {b : BV} (hb : b.vs.length = b.q.2.1) (hL : L.length < 5000000000000) (h1 : (chkA A b).2.2 = 0) (h2 : (chkA A b).2.1 = false) : Lasts (apA A abl b).1 (L ++ [b]) := by
  have hn := nums_step (abl := abl) h.nums hb h1 h2
  have ho := once_of_chk h.nums h1 h2
  have hc0 : chkB b = 0 := by
    by_cases hc : chkB b = 0
    · exact hc
    · unfold chkA at h1; rw [if_pos hc] at h1; exact h1
  refine ⟨hn, ?_, ?_, fun p v hp0 hk => ?_⟩
  · intro c hc
    simp only [List.mem_append, List.mem_singleton] at hc
    rcases hc with hc | rfl
    · exact h.chk c hc
    · exact hc0
  · intro c hc
    simp only [List.mem_append, List.mem_singleton] at hc
    rcases hc with hc | rfl
    · exact h.len c hc
    · exact hb
  have hlen : ((L ++ [b]).length : Int) = L.length + 1 := by simp
  rw [hlen]
  have keep : ∀ u, kget A p = some u → u = v → b.pid ≠ p → v.2.2.1 = (ent (L ++ [b]) p v.1).drop ((ent (L ++ [b]) p v.1).length - 5) ∧ Seqs (ent (L ++ [b]) p v.1) v.2.1 ∧ 0 ≤ v.2.1 ∧ v.2.1 ≤ 16 * ((L.length : Int) + 1) := by
    rintro u hu rfl hne
    obtain ⟨k1, k2, k3, k4⟩ := h.all p u hp0 hu
    rw [ent_app, ent_one, if_neg (by rintro ⟨hh, _⟩; exact hne hh), List.append_nil]
    exact ⟨k1, k2, k3, by omega⟩
  by_cases hp : b.pid = 0
  · have e : (apA A abl b).1 = A := by unfold apA; rw [if_pos hp]
    rw [e] at hk
    exact keep v hk rfl (by omega)
  have e : (apA A abl b).1 = kups A b.pid (fun o => stepV b (oldV b (o.getD (b.pe, 0, [], -1)))) := by unfold apA; rw [if_neg hp]
  rw [e, kget_ups] at hk
  split at hk
  · rename_i hpp
    subst hpp
    cases hk
    rcases ho with ho | ⟨o1, o2⟩
    · exact absurd ho hp
    -- what is known behind the epoch's turn
    have old : (oldV b ((kget A b.pid).getD (b.pe, 0, [], -1))).1 = b.pe ∧ (oldV b ((kget A b.pid).getD (b.pe, 0, [], -1))).2.2.1 = (ent L b.pid b.pe).drop ((ent L b.pid b.pe).length - 5) ∧ Seqs (ent L b.pid b.pe) (oldV b ((kget A b.pid).getD (b.pe, 0, [], -1))).2.1 ∧
        (oldV b ((kget A b.pid).getD (b.pe, 0, [], -1))).2.1 = nxt L b.pid b.pe ∧ 0 ≤ nxt L b.pid b.pe ∧ nxt L b.pid b.pe ≤ 16 * L.length := by
      cases hk : kget A b.pid with
      | none =>
        have hnn := h.nums.none_ _ hp0 hk
        have e1 := ent_nil (L := L) (p := b.pid) (e := b.pe) (fun c hc hcp => absurd hcp (hnn c hc))
        have e2 := nxt_zero (L := L) (p := b.pid) (e := b.pe) (fun c hc hcp => absurd hcp (hnn c hc))
        rw [e1, e2]
        simp only [Option.getD_none, oldV]
        simp [seqs_nil]
        try omega
      | some v =>
        obtain ⟨s1, s2⟩ := h.nums.some_ _ v hp0 hk
        obtain ⟨k1, k2, k3, k4⟩ := h.all _ v hp0 hk
        have hge : ¬ b.pe < v.1 := by
          intro hl
          unfold chkA at h1
          rw [if_neg (by simp [hc0]), if_neg hp, hk] at h1
          simp [hl] at h1
        simp only [Option.getD_some]
        unfold oldV
        by_cases hg : b.pe > v.1
        · rw [if_pos hg]
          have e1 := ent_nil (L := L) (p := b.pid) (e := b.pe) (fun c hc hcp he => by have := s1 c hc hcp; omega)
          have e2 := nxt_zero (L := L) (p := b.pid) (e := b.pe) (fun c hc hcp he => by have := s1 c hc hcp; omega)
          rw [e1, e2]
          simp [seqs_nil]
          try omega
        · rw [if_neg hg]
          have he : v.1 = b.pe := by omega
          rw [he] at k1 k2 s2
          exact ⟨he, k1, k2, s2.symm, by omega, by omega⟩
    obtain ⟨v1, v2, v3, v4, v5, v6⟩ := old
    generalize oldV b ((kget A b.pid).getD (b.pe, 0, [], -1)) = v at v1 v2 v3 v4 ⊢
    have e1 : (stepV b v).1 = b.pe := by unfold stepV; split <;> exact v1
    rw [e1, ent_app, ent_one]
    unfold stepV
    cases hcon : b.con with
    | true =>
      simp only [if_true, Bool.true_eq_false, and_false, if_false, List.append_nil]
      exact ⟨v2, v3, by omega, by omega⟩
    | false =>
      simp only [Bool.false_eq_true, and_self, if_true, if_false]
      have hseq : b.seq = nxt L b.pid b.pe := by rcases o2 with o2 | o2; rw [hcon] at o2; cases o2; exact o2
      obtain ⟨z1, z2, z3⟩ := chkB_sz hc0 hcon
      have hsz : b.sz = b.vs.length := by unfold BV.sz; rw [hcon]; simp
      have hw : IntKind.i64.wrap (b.seq + (b.sz : Int)) = b.seq + (b.sz : Int) := by
        apply wrap_i64 <;> omega
      rw [hw]
      refine ⟨?_, ⟨?_, ?_⟩, by omega, by omega⟩
      · rw [v2]; exact cut5_drop _ _
      · rw [List.pairwise_append]
        refine ⟨v3.up, by simp, ?_⟩
        intro s hs t ht
        simp only [List.mem_singleton] at ht
        subst ht
        have := v3.lt s hs
        show s.1 < b.seq
        omega
      · intro s hs
        simp only [List.mem_append, List.mem_singleton] at hs
        rcases hs with hs | rfl
        · have := v3.lt s hs; omega
        · show b.seq < _
          omega
  · rename_i hpp
    exact keep v hk rfl (fun hh => hpp hh.symm)

theorem lay_lasts {l : List BV} (hl : ∀ b ∈ l, b.vs.length = b.q.2.1) (hn : l.length < 5000000000000) : Lasts (lay l).1 (lay l).2.2.1 := by
  have key : ∀ n, n ≤ l.length → Lasts (lay (l.take n)).1 (lay (l.take n)).2.2.1 ∧ (lay (l.take n)).2.2.1.length ≤ n := by
    intro n
    induction n with
    | zero => exact fun _ => ⟨⟨⟨by simp [lay], fun p v _ h => by simp [lay, kget_nil] at h, fun i h => by simp [lay] at h⟩, by simp [lay], by simp [lay], fun p v _ h => by simp [lay, kget_nil] at h⟩, by simp [lay]⟩
    | succ n ih =>
      intro hle
      obtain ⟨i1, i2⟩ := ih (by omega)
      rw [List.take_succ_eq_append_getElem (by omega), lay_snoc]
      unfold layStep
      simp only
      split
      · rename_i hc
        exact ⟨lasts_step i1 (b := { l[n] with base := (lay (l.take n)).2.2.2 }) (hl l[n] (List.getElem_mem _)) (by omega) hc.1 hc.2, by simp; omega⟩
      · exact ⟨i1, by omega⟩
  have := (key l.length (Nat.le_refl _)).1
  rwa [List.take_length] at this

/-! ## asked again -/
theorem find_one {l : List Sn} (h : l.Pairwise (fun s t => s.1 < t.1)) {x : Sn} (hx : x ∈ l) : l.find? (fun s => s.1 == x.1 && s.2.1 == x.2.1) = some x := by
  induction l with
  | nil => simp at hx
  | cons a l ih =>
    rw [List.pairwise_cons] at h
    rcases List.mem_cons.mp hx with rfl | hx
    · rw [List.find?_cons_of_pos (by simp)]
    · have := h.1 x hx
      rw [List.find?_cons_of_neg (by simp; omega)]
      exact ih h.2 hx
theorem find_not {l : List Sn} {n m : Int} (h : ∀ s ∈ l, s.1 = n → s.2.1 ≠ m) : l.find? (fun s => s.1 == n && s.2.1 == m) = none := by
  rw [List.find?_eq_none]
  intro s hs
  have := h s hs
  simp
  exact this

theorem drop_tail {α : Type} (E1 : List α) (x : α) (E2 : List α) (k : Nat) : (E1 ++ x :: E2).drop (E1.length + 1 + k) = E2.drop k := by
  induction E1 with
  | nil => simp [Nat.add_comm]
  | cons a E1 ih =>
    have : (a :: E1).length + 1 + k = (E1.length + 1 + k) + 1 := by simp; omega
    rw [this, List.cons_append, List.drop_succ_cons, ih]

/-- how many batches of a producer are behind -/
def later (L : List BV) (p : Int) : Nat := (L.filter fun c => decide (c.pid = p ∧ c.con = false)).length

theorem later_snoc (L : List BV) (c : BV) (p : Int) : later (L ++ [c]) p = if c.pid = p ∧ c.con = false then later L p + 1 else later L p := by
  unfold later
  rw [List.filter_append, List.length_append]
  by_cases h : c.pid = p ∧ c.con = false
  · rw [if_pos h, List.filter_cons_of_pos (by simp only [decide_eq_true_eq]; exact h)]; rfl
  · rw [if_neg h, List.filter_cons_of_neg (by simp only [decide_eq_true_eq]; exact h)]; rfl

theorem chk_not {A : List (Int × PV)} {b : BV} {v : PV} (hk : kget A b.pid = some v) (hf : ¬ b.pe < v.1 → v.2.2.1.find? (isB b) = none) : (chkA A b).2.1 = false := by
  unfold chkA
  split
  · rfl
  · split
    · rfl
    · rw [hk]
      simp only
      split
      · rfl
      · rename_i hl
        split
        · rfl
        · split
          · split <;> rfl
          · rw [hf hl]
            simp only
            split <;> rfl

structure Agn (A : List (Int × PV)) (L : List BV) (i : Nat) (b : BV) (v : PV) : Prop where
  is : kget A b.pid = some v
  old : v.1 > b.pe → (chkA A b).2.2 = 10
  le : b.pe ≤ v.1
  now : v.1 = b.pe → later (L.drop (i + 1)) b.pid < 5 → chkA A b = (b.base, true, 0)
  far : v.1 = b.pe → 5 ≤ later (L.drop (i + 1)) b.pid → (chkA A b).2.2 = 11
  more : ∀ q' vs', vs'.length = b.vs.length + 1 → (chkA A { b with q := q', vs := vs' }).2.1 = false

theorem agn {A : List (Int × PV)} {L : List BV} (h : Lasts A L) {i : Nat} (hi : i < L.length) (hp : L[i].pid ≠ 0) (hc : L[i].con = false) : ∃ v, Agn A L i L[i] v := by
  obtain ⟨b, hb⟩ : ∃ b, L[i] = b := ⟨_, rfl⟩
  have hmem : b ∈ L := by rw [← hb]; exact List.getElem_mem hi
  rw [hb] at hp hc ⊢
  cases hk : kget A b.pid with
  | none => exact absurd rfl (h.nums.none_ _ hp hk b hmem)
  | some v =>
    obtain ⟨s1, s2⟩ := h.nums.some_ _ v hp hk
    obtain ⟨k1, k2, k3, k4⟩ := h.all _ v hp hk
    have hc0 := h.chk b hmem
    have hle := s1 b hmem rfl
    obtain ⟨z1, z2, z3⟩ := chkB_sz hc0 hc
    have hsz : b.sz = b.vs.length := by unfold BV.sz; rw [hc]; simp
    have hsplit : L = L.take i ++ [b] ++ L.drop (i + 1) := by
      rw [← hb, ← List.take_succ_eq_append_getElem hi, List.take_append_drop]
    have hE : v.1 = b.pe → ent L b.pid v.1 = ent (L.take i) b.pid b.pe ++ snB b :: ent (L.drop (i + 1)) b.pid b.pe ∧ (ent (L.drop (i + 1)) b.pid b.pe).length = later (L.drop (i + 1)) b.pid := by
      intro he
      refine ⟨?_, ?_⟩
      · rw [he]
        conv => lhs; rw [hsplit]
        rw [ent_app, ent_app, ent_one, if_pos ⟨rfl, rfl, hc⟩]
        simp
      · unfold ent later
        rw [List.length_map]
        congr 1
        apply List.filter_congr
        intro c hcm
        have hcL : c ∈ L := List.mem_of_mem_drop hcm
        simp only [isE]
        congr 1
        apply propext
        constructor
        · rintro ⟨h1, _, h3⟩; exact ⟨h1, h3⟩
        · rintro ⟨h1, h3⟩
          refine ⟨h1, ?_, h3⟩
          have g1 := s1 c hcL h1
          obtain ⟨j, hj, hj2⟩ := List.getElem_of_mem hcm
          rw [List.getElem_drop] at hj2
          have hjl : i + 1 + j < L.length := by simp at hj; omega
          have := h.nums.once (i + 1 + j) hjl
          rw [hj2] at this
          rcases this with h0 | ⟨h5, _⟩
          · rw [h1] at h0; exact absurd h0 hp
          · have := h5 b (List.mem_take_iff_getElem.mpr ⟨i, by omega, hb⟩) h1.symm
            omega
    have hisB : ∀ s, isB b s = (s.1 == (snB b).1 && s.2.1 == (snB b).2.1) := fun s => rfl
    have chk : chkA A b = if b.pe < v.1 then ((0 : Int), false, (10 : Int)) else match v.2.2.1.find? (isB b) with | some s => (s.2.2, true, 0) | none => if b.seq ≠ v.2.1 then (0, false, 11) else (0, false, 0) := by
      unfold chkA
      rw [if_neg (by simp [hc0]), if_neg hp, hk]
      simp only [hc, Bool.false_eq_true, if_false]
      by_cases hl : b.pe < v.1
      · rw [if_pos hl, if_pos hl]
      · rw [if_neg hl, if_neg hl, if_neg (by omega)]
        cases v.2.2.1.find? (isB b) <;> rfl
    refine ⟨v, hk, ?_, hle, ?_, ?_, ?_⟩
    · intro hg; rw [chk, if_pos (by omega)]
    · intro he hlt
      obtain ⟨e1, e2⟩ := hE he
      have hfind : v.2.2.1.find? (isB b) = some (snB b) := by
        have : isB b = (fun s => s.1 == (snB b).1 && s.2.1 == (snB b).2.1) := funext hisB
        rw [this]
        apply find_one
        · rw [k1]; exact k2.up.sublist (List.drop_sublist _ _)
        · rw [k1, e1]
          have hln : (ent (L.take i) b.pid b.pe ++ snB b :: ent (L.drop (i + 1)) b.pid b.pe).length - 5 ≤ (ent (L.take i) b.pid b.pe).length := by simp; omega
          rw [List.drop_append_of_le_length hln]
          simp
      rw [chk, if_neg (by omega), hfind]
      rfl
    · intro he hge
      obtain ⟨e1, e2⟩ := hE he
      have hup := k2.up
      rw [e1] at hup
      rw [List.pairwise_append] at hup
      have hup2 := List.pairwise_cons.mp hup.2.1
      have hfind : v.2.2.1.find? (isB b) = none := by
        have : isB b = (fun s => s.1 == (snB b).1 && s.2.1 == (snB b).2.1) := funext hisB
        rw [this]
        apply find_not
        intro s hs hs1
        rw [k1, e1] at hs
        have hln : (ent (L.take i) b.pid b.pe ++ snB b :: ent (L.drop (i + 1)) b.pid b.pe).length - 5 = (ent (L.take i) b.pid b.pe).length + 1 + (later (L.drop (i + 1)) b.pid - 5) := by simp; omega
        rw [hln, drop_tail] at hs
        have hm := List.mem_of_mem_drop hs
        have := hup2.1 s hm
        omega
      have hlt := k2.lt (snB b) (by rw [e1]; simp)
      have hne : b.seq ≠ v.2.1 := by have : b.seq < v.2.1 := hlt; omega
      rw [chk, if_neg (by omega), hfind]
      simp [hne]
    · intro q' vs' hvl
      refine chk_not (b := { b with q := q', vs := vs' }) hk (fun hl => ?_)
      have hl' : ¬ b.pe < v.1 := hl
      have he : v.1 = b.pe := by omega
      obtain ⟨e1, e2⟩ := hE he
      have hsz' : (({ b with q := q', vs := vs' } : BV).sz : Int) = b.vs.length + 1 := by unfold BV.sz; simp only [hc]; simp [hvl]
      have hfind : v.2.2.1.find? (isB { b with q := q', vs := vs' }) = none := by
        have : isB { b with q := q', vs := vs' } = (fun s => s.1 == b.seq && s.2.1 == (b.vs.length + 1 : Int)) := funext fun s => by unfold isB; rw [hsz']
        rw [this]
        apply find_not
        intro s hs hs1
        rw [k1] at hs
        have hs' := List.mem_of_mem_drop hs
        have hbm : snB b ∈ ent L b.pid v.1 := by rw [e1]; simp
        have : s = snB b := by
          have hup := k2.up
          by_cases hsb : s = snB b
          · exact hsb
          · exfalso
            obtain ⟨j1, hj1, e1'⟩ := List.getElem_of_mem hs'
            obtain ⟨j2, hj2, e2'⟩ := List.getElem_of_mem hbm
            have hq : (snB b).1 = b.seq := rfl
            rw [List.pairwise_iff_getElem] at hup
            rcases Nat.lt_trichotomy j1 j2 with hlt | heq | hgt
            · have := hup j1 j2 hj1 hj2 hlt; rw [e1', e2'] at this; omega
            · subst heq; exact hsb (e1'.symm.trans e2')
            · have := hup j2 j1 hj2 hj1 hgt; rw [e1', e2'] at this; omega
        rw [this]
        show (b.sz : Int) ≠ _
        omega
      exact hfind
end Go.Proofs.Ytliakpomlkgpnaa
