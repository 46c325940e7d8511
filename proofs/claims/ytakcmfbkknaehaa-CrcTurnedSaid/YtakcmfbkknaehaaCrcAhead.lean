/-
  CrcAhead: lemmas on what Go functions of this seat come to (for whatever arguments, as each says). No condition but those that stand in each lemma.
-/
import Derived.Test.YtakcmfbkknaehaaRs
import Derived.Test.YtakcmfbkknaehaaCrcH
namespace Go.Proofs.Ytakcmfbkknaehaa
open Go Go.Ev Go.Crc
set_option maxRecDepth 100000
set_option linter.unusedVariables false
set_option linter.unusedSimpArgs false

theorem step_inj {a b : BitVec 32} (h : Crc.step a = Crc.step b) : a = b := by
  have h31 : ∀ r : BitVec 32, (Crc.step r).getLsbD 31 = r.getLsbD 0 := by
    intro r
    unfold Go.Crc.step
    cases hr : r.getLsbD 0
    · rw [if_neg (by simp)]
      rw [BitVec.getLsbD_ushiftRight]
      exact BitVec.getLsbD_of_ge _ _ (by omega)
    · rw [if_pos rfl, BitVec.getLsbD_xor, BitVec.getLsbD_ushiftRight, BitVec.getLsbD_of_ge _ _ (by omega)]
      decide
  have h0 : a.getLsbD 0 = b.getLsbD 0 := by rw [← h31 a, ← h31 b, h]
  have hs : a >>> 1 = b >>> 1 := by
    unfold Go.Crc.step at h
    rw [h0] at h
    cases hb : b.getLsbD 0
    · rw [hb] at h; simpa using h
    · rw [hb] at h
      simp only [if_true] at h
      have := congrArg (· ^^^ poly) h
      simpa [BitVec.xor_assoc] using this
  apply BitVec.eq_of_getLsbD_eq
  intro i hi
  cases i with
  | zero => exact h0
  | succ i =>
    have := congrArg (fun v => v.getLsbD i) hs
    simp only [BitVec.getLsbD_ushiftRight] at this
    rwa [Nat.add_comm] at this

theorem stepN_inj : ∀ (n : Nat) {a b : BitVec 32}, stepN n a = stepN n b → a = b
  | 0, _, _, h => h
  | n + 1, _, _, h => step_inj (stepN_inj n h)

theorem run_inj : ∀ (zs : List Int) {a b : BitVec 32}, run a zs = run b zs → a = b
  | [], _, _, h => h
  | z :: zs, a, b, h => by
    have := run_inj zs (a := upd a (BitVec.ofInt 8 z)) (b := upd b (BitVec.ofInt 8 z)) h
    have h2 := stepN_inj 8 this
    have := congrArg (· ^^^ (BitVec.ofInt 8 z).setWidth 32) h2
    simpa [BitVec.xor_assoc] using this

/-- sums gone on with the same bytes are alike just where the sums were -/
theorem more_inj {s t : Int} (hs : 0 ≤ s ∧ s < 4294967296) (ht : 0 ≤ t ∧ t < 4294967296) (zs : List Int) : more s zs = more t zs ↔ s = t := by
  constructor
  · intro h
    unfold more at h
    have h1 : (~~~ (run (~~~ (BitVec.ofInt 32 s)) zs)) = ~~~ (run (~~~ (BitVec.ofInt 32 t)) zs) := BitVec.eq_of_toNat_eq (by omega)
    have h2 := run_inj zs (BitVec.not_inj.1 h1)
    have h3 := BitVec.not_inj.1 h2
    rw [w32_bv hs, w32_bv ht, h3]
  · rintro rfl; rfl

theorem info5 : ∃ i z, Try.prog.info? 5 = some i ∧ i.zero = some z ∧ i.size = 1 ∧ i.bytes = 1 ∧ z.cells.size = 1 := by
  have h : (Try.prog.info? 5).map (fun i => (i.zero, i.size, i.bytes)) = some (some (.int .u8 0), 1, 1) := by kernel_rfl
  cases h2 : Try.prog.info? 5 with
  | none => rw [h2] at h; cases h
  | some i =>
    rw [h2] at h
    simp only [Option.map_some, Option.some.injEq, Prod.mk.injEq] at h
    exact ⟨i, .int .u8 0, rfl, h.1, h.2.1, h.2.2, rfl⟩

/-- append of bytes to what may be written -/
theorem app8 {w : World} {v u : Option Addr × Nat × Nat} {xs zs : List Int} (h : Own w 5 1 v (xs.map (Value.int .u8))) (hu : Sl8 w u zs) (hl : xs.length + zs.length ≤ 140737488355328) (cs : Array Bool) :
    ∃ v' w', callB Try.prog .append #[23, 23] 23 cs #[.slice v.1 v.2.1 v.2.2, .slice u.1 u.2.1 u.2.2] w = some (.slice v'.1 v'.2.1 v'.2.2, w') ∧ Own w' 5 1 v' ((xs ++ zs).map (Value.int .u8)) ∧
      Fr (blkOf v) w w' ∧ (v'.1 = v.1 ∨ blkOf v' = [w.heap.size]) := by
  obtain ⟨i, z, hi, hz, h1, h2, h3⟩ := info5
  have hl1 := h.len
  simp only [List.length_map, Nat.mul_one] at hl1
  have hl2 := hu.1
  have hml : maxLen = 9223372036854775807 := by decide
  obtain ⟨v', w', e, _, o, f, hv⟩ := callB_append (P := Try.prog) (t := 23) (tx := 23) (ty := 23) (consts := cs) Try.underlying23 hi hz h1 h2 h3 (d := .slice 5) Try.underlying23 (by intro k hk; cases hk) h
    (x := .slice u.1 u.2.1 u.2.2) (m := u.2.1) (news := zs.map (Value.int .u8)) rfl (by simp [hl2])
    (fun w' hw' => by
      have := SlI.firstCells (P := Try.prog) (w' := w') hu (Nat.le_refl zs.length) hw'
      rw [List.take_length, hl2] at this
      exact this) (by simp) (by omega) (by omega)
  rw [← List.map_append] at o
  exact ⟨v', w', e, o, f, hv.imp (·.1) id⟩

theorem St.sum4 {W w : World} {b : Nat} (h : St W b w) {q : Option Addr × Nat × Nat} {zs : List Int} (hu : Sl8 w q zs) (hz : Zs zs) (hd : 0 < zs.length → b ∉ blkOf q) (hl : zs.length ≤ 140737488355328) :
    ∃ w', callF Try.prog 13 #[.pointer (some ⟨b, 0, none⟩), .slice q.1 q.2.1 q.2.2] w = some (.int .u32 (Crc.more 0 zs), w') ∧ St W b w' ∧ Fr [b] w w' := by
  obtain ⟨w', e, t, f⟩ := sum13 h.tb hu hz hd (by omega)
  exact ⟨w', e, h.stepB f (.inr t), f⟩

structure AInv (W : World) (b : Nat) (k : Nat) (s : (Option Addr × Nat × Nat) × Int) (w : World) : Prop where
  cnt : s.2 = (k : Int)
  st : St W b w
  own : Own w 5 1 s.1 ((List.replicate k (0 : Int)).map (Value.int .u8))
  nb : b ∉ blkOf s.1
  old : ∀ y ∈ blkOf s.1, W.heap.size ≤ y

theorem St.stepO {W w w' : World} {b : Nat} {v : Option Addr × Nat × Nat} (h : St W b w) (f : Fr (blkOf v) w w') (nb : b ∉ blkOf v) (old : ∀ y ∈ blkOf v, W.heap.size ≤ y) : St W b w' :=
  ⟨(h.fr.nil.trans f).mono (by intro y hy hlt; have := old y hy; omega), h.tb.fr f nb, h.hb⟩

theorem ahead_round {W : World} {b m : Nat} {n : Int} {u : Option Addr × Nat × Nat} {p : Option Addr} (hm : m ≤ 60) (hn : IntKind.i64.wrap (IntKind.i64.wrap (Int.tmod n 60) + 1) = (m : Int))
    (k : Nat) (s : (Option Addr × Nat × Nat) × Int) (w : World) (hk : k < m) (hi : AInv W b k s w) :
    ∃ s' w', g7_l3_b n u p s w = some (.normal, s', w') ∧ AInv W b (k + 1) s' w' := by
  obtain ⟨hc, st, own, nb, old⟩ := hi
  obtain ⟨v, i⟩ := s
  simp only at hc own nb old
  subst hc
  have f0 : Fr [] w (w.alloc (.cells #[.int .u8 0] 5)) := Fr.alloc _
  have hb := Blk.new w [.int .u8 0] 5
  change Blk (w.alloc (.cells #[.int .u8 0] 5)) _ _ _ at hb
  have st0 := st.step f0
  have own0 := own.fr f0 (by simp)
  have hlt : w.heap.size < (w.alloc (.cells #[.int .u8 0] 5)).heap.size := hb.lt
  have hW : W.heap.size ≤ w.heap.size := st.fr.size
  generalize hw1 : w.alloc (.cells #[.int .u8 0] 5) = w1 at f0 hb st0 own0 hlt
  have hu : Sl8 w1 (some ⟨w.heap.size, 0, none⟩, 1, 1) [0] := by
    refine ⟨rfl, fun _ => ⟨w.heap.size, 0, rfl, hlt, fun i hi => ?_⟩⟩
    rw [hb.cell]
    match i, hi with
    | 0, _ => rfl
  obtain ⟨v', w', e, o, f, hv⟩ := app8 own0 hu (by simp; omega) #[false, false]
  have e1 : List.replicate k (0 : Int) ++ [0] = List.replicate (k + 1) 0 := List.replicate_succ'.symm
  rw [e1] at o
  have hblk : ∀ y ∈ blkOf v', y ∈ blkOf v ∨ w1.heap.size ≤ y := by
    intro y hy
    rcases hv with hv | hv
    · left; simp only [blkOf] at hy ⊢; rw [hv] at hy; exact hy
    · right; rw [hv] at hy; simp at hy; omega
  have st1 := st0.stepO f nb old
  refine ⟨((v'.1, v'.2.1, v'.2.2), ((k + 1 : Nat) : Int)), w', ?_, rfl, st1, o, ?_, ?_⟩
  · have hlt2 : (k : Int) < (m : Int) := by omega
    have hs := wrap_succ (n := k) (by omega)
    unfold g7_l3_b
    simp only at e
    simp only [hn, hlt2, hw1, e, hs, Option.bind_some, asP_pointer, asB_bool, asI_int, asS_string, asSl_slice, asM_map, asTup0, asTup1, asTup2, asTup3, asTup4, asTup5, getD0, getD1, getD2, getD3, getD4, Bool.not_true, Bool.not_false, Bool.false_eq_true, Bool.true_eq_false, ↓reduceIte, decide_true, decide_false, Option.isNone_some, Option.isNone_none, Option.isSome_some, Option.isSome_none, beq_self_eq_true, bne_self_eq_false, Bool.and_true, Bool.true_and, Bool.and_false, Bool.false_and, not_true_eq_false, not_false_eq_true]
  · intro hm
    rcases hblk _ hm with h | h
    · exact nb h
    · have := st0.tb.lt; omega
  · intro y hy
    rcases hblk y hy with h | h
    · exact old y h
    · omega

theorem CrcAhead_main (W : World) (x0 : (Ty.slice (.int .u8)).Val) (h0 : (Ty.slice (.int .u8)).At W [.slice x0.1.1 x0.1.2.1 x0.1.2.2] x0) (n1 : Int) (h1 : IntKind.u8.min ≤ n1 ∧ n1 ≤ IntKind.u8.max)
    (hs0 : Ty.Fits (.slice (.int .u8)) x0) :
    ∃ w', callF Try.prog 7 #[.slice x0.1.1 x0.1.2.1 x0.1.2.2, .int .u8 n1] W = some (.bool true, w') ∧ Fr [] W w' := by
  replace h1 := u8_range h1
  have hlen : x0.2.length ≤ 140737488351232 := Fits.u8 hs0
  obtain ⟨hu, hz, hlt⟩ := slI_of_at h0
  replace hz := zs_of hz
  have hll := hu.1
  have hm : ∃ m : Nat, m ≤ 60 ∧ IntKind.i64.wrap (IntKind.i64.wrap (Int.tmod n1 60) + 1) = (m : Int) := by
    rw [Int.tmod_eq_emod_of_nonneg h1.1]
    have e1 := Int.emod_nonneg n1 (show (60 : Int) ≠ 0 by omega)
    have e2 := Int.emod_lt_of_pos n1 (show 0 < (60 : Int) by omega)
    rw [wrap_i64 (n := n1 % 60) (by omega) (by omega), wrap_i64 (by omega) (by omega)]
    exact ⟨(n1 % 60 + 1).toNat, by omega, by omega⟩
  obtain ⟨m, hm60, hn⟩ := hm
  obtain ⟨w1, e1, s1⟩ := St.new (W := W)
  obtain ⟨t, w2, e2, i2⟩ := loopS_count (b := g7_l3_b n1 x0.1 (some ⟨W.heap.size, 0, none⟩)) (I := AInv W W.heap.size) (n := m)
    (fun k st w hk hi => ahead_round hm60 hn k st w hk hi)
    (fun st w hi => by
      obtain ⟨hc, _, _, _, _⟩ := hi
      obtain ⟨v, i⟩ := st
      simp only at hc
      subst hc
      have hlt2 : ¬ (m : Int) < (m : Int) := by omega
      unfold g7_l3_b
      simp only [hn, hlt2, Option.bind_some, asP_pointer, asB_bool, asI_int, asS_string, asSl_slice, asM_map, asTup0, asTup1, asTup2, asTup3, asTup4, asTup5, getD0, getD1, getD2, getD3, getD4, Bool.not_true, Bool.not_false, Bool.false_eq_true, Bool.true_eq_false, ↓reduceIte, decide_true, decide_false, Option.isNone_some, Option.isNone_none, Option.isSome_some, Option.isSome_none, beq_self_eq_true, bne_self_eq_false, Bool.and_true, Bool.true_and, Bool.and_false, Bool.false_and, not_true_eq_false, not_false_eq_true])
    (Nat.zero_le _) (k := 0) (s := ((none, 0, 0), 0)) (w := w1) ⟨rfl, s1, Own.nil _ _ _, by simp [blkOf], by simp [blkOf]⟩
  obtain ⟨_, s2, o2, nb2, old2⟩ := i2
  obtain ⟨v, ti⟩ := t
  simp only at o2 nb2 old2
  have zz : Zs (List.replicate m 0) := by intro z hz; rw [List.mem_replicate] at hz; omega
  have lz : (List.replicate m (0 : Int)).length ≤ 140737488355000 := by simp; omega
  obtain ⟨w3, e3, s3, f3⟩ := s2.sum o2.slI zz (fun _ => nb2) lz
  have o3 := o2.fr f3 (by intro y hy hm; simp at hm; subst hm; exact nb2 hy)
  obtain ⟨v', w4, e4, o4, f4, hv⟩ := app8 o3 (hu.fr2 s3.fr (by simp)) (by simp; omega) #[false, false]
  have s4 := s3.stepO f4 nb2 old2
  have nb4 : W.heap.size ∉ blkOf v' := by
    rcases hv with hv | hv
    · simp only [blkOf] at nb2 ⊢; rw [hv]; exact nb2
    · rw [hv]; have := s3.tb.lt; simp; omega
  have zc : Zs (List.replicate m 0 ++ x0.2) := fun z hm => (List.mem_append.1 hm).elim (zz z) (hz z)
  have lc : (List.replicate m (0 : Int) ++ x0.2).length ≤ 140737488355328 := by simp; omega
  have ob : ∀ {v v' : World} {q : Option Addr × Nat × Nat} {xs : List Value}, Own v 5 1 q xs → Fr [W.heap.size] v v' → W.heap.size ∉ blkOf q → Own v' 5 1 q xs := fun h f hd => h.fr f (by intro z hz hm; simp at hm; subst hm; exact hd hz)
  obtain ⟨w5, e5, f5⟩ := awake10 (w := w4)
  have s5 := s4.step f5
  have o5 := o4.fr f5 (by simp)
  obtain ⟨w6, e6, s6, f6⟩ := s5.sum4 o5.slI zc (fun _ => nb4) lc
  have o6 := ob o5 f6 nb4
  obtain ⟨w7, e7, s7, f7⟩ := s6.more (more_range 0 (List.replicate m 0)) (hu.fr2 s6.fr (by simp)) hz (s6.old hlt) (by omega)
  have o7 := ob o6 f7 nb4
  obtain ⟨w8, e8, s8, f8⟩ := s7.sum4 o7.slI zc (fun _ => nb4) lc
  obtain ⟨q9, w9, e9, s9, o9, d9, _, f9⟩ := s8.own hu (by omega)
  obtain ⟨w10, e10, s10, f10⟩ := s9.sum o9.slI hz (fun _ => d9) (by omega)
  rw [more_append] at e7
  have key : ((more 0 (List.replicate m 0) == 0) == (more 0 (List.replicate m 0 ++ x0.2) == more 0 x0.2)) = true := by
    rw [← more_append]
    have h := more_inj (more_range 0 (List.replicate m 0)) (t := 0) (by decide) x0.2
    by_cases hz0 : more 0 (List.replicate m 0) = 0
    · rw [hz0]; simp
    · have : ¬ more (more 0 (List.replicate m 0)) x0.2 = more 0 x0.2 := fun e => hz0 (h.1 e)
      have a1 : (more 0 (List.replicate m 0) == 0) = false := by simpa using hz0
      have a2 : (more (more 0 (List.replicate m 0)) x0.2 == more 0 x0.2) = false := by simpa using this
      rw [a1, a2]; rfl
  refine ⟨w10, g7_call ?_, s10.fr⟩
  unfold g7
  simp only [e1, g7_l3_x0_of e2, Option.bind_some, asP_pointer, asB_bool, asI_int, asS_string, asSl_slice, asM_map, asTup0, asTup1, asTup2, asTup3, asTup4, asTup5, getD0, getD1, getD2, getD3, getD4, Bool.not_true, Bool.not_false, Bool.false_eq_true, Bool.true_eq_false, ↓reduceIte, decide_true, decide_false, Option.isNone_some, Option.isNone_none, Option.isSome_some, Option.isSome_none, beq_self_eq_true, bne_self_eq_false, Bool.and_true, Bool.true_and, Bool.and_false, Bool.false_and, not_true_eq_false, not_false_eq_true]
  unfold g7_l3_x0
  simp only [e3, e4, e5, e6, e7, e8, e9, e10, key, Option.bind_some, asP_pointer, asB_bool, asI_int, asS_string, asSl_slice, asM_map, asTup0, asTup1, asTup2, asTup3, asTup4, asTup5, getD0, getD1, getD2, getD3, getD4, Bool.not_true, Bool.not_false, Bool.false_eq_true, Bool.true_eq_false, ↓reduceIte, decide_true, decide_false, Option.isNone_some, Option.isNone_none, Option.isSome_some, Option.isSome_none, beq_self_eq_true, bne_self_eq_false, Bool.and_true, Bool.true_and, Bool.and_false, Bool.false_and, not_true_eq_false, not_false_eq_true]
end Go.Proofs.Ytakcmfbkknaehaa
