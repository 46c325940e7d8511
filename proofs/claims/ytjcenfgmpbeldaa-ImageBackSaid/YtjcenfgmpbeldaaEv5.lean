/-
  An evaluator of the code of the model, in Option, and the proof that what it answers is what a call comes to, for whatever program: part Ev5. No condition.
-/
import Derived.Test.YtjcenfgmpbeldaaEv4
namespace Go.Ev
open Go
section
variable {β : Type} {P : Program} {w : World} {r : β}

theorem optI_some {v : Value} {m : Option Int} (h : optI (some v) = some m) : ∃ k n, v = .int k n ∧ m = some n := by
  cases v <;> simp only [optI] at h <;> first | (cases h; done) | exact ⟨_, _, rfl, by simpa using h.symm⟩

theorem bnd_some {n : Int} {d y m : Nat} (h : bnd (some n) d y = some m) : (0 ≤ n ∧ n ≤ y) ∧ m = n.toNat := by
  simp only [bnd] at h
  split at h
  · rename_i hc; simp only [Option.some.injEq] at h; exact ⟨hc, h.symm⟩
  · cases h

theorem sliceBounds_ok {isS : Bool} {len cap : Nat} {lo hi mx : Option Value} {l h m : Option Int} {L H M : Nat}
    (hl : optI lo = some l) (hh : optI hi = some h) (hm : optI mx = some m) (hn : ¬ (mx.isSome = true ∧ hi.isSome = false))
    (h1 : bnd m cap cap = some M) (h2 : bnd h len M = some H) (h3 : bnd l 0 H = some L) :
    (Instr.sliceBounds isS len cap lo hi mx).run P w = .ok (L, H, M) w := by
  have p3 : ∀ {v : Value} {c : BoundsCode}, lo = some v → (Instr.sliceBound v H c).run P w = .ok L w := by
    intro v c e; subst e
    obtain ⟨k, n, rfl, rfl⟩ := optI_some hl
    obtain ⟨hc, rfl⟩ := bnd_some h3
    exact sliceBound_ok hc
  have p2 : ∀ {v : Value} {c : BoundsCode}, hi = some v → (Instr.sliceBound v M c).run P w = .ok H w := by
    intro v c e; subst e
    obtain ⟨k, n, rfl, rfl⟩ := optI_some hh
    obtain ⟨hc, rfl⟩ := bnd_some h2
    exact sliceBound_ok hc
  have p1 : ∀ {v : Value} {c : BoundsCode}, mx = some v → (Instr.sliceBound v cap c).run P w = .ok M w := by
    intro v c e; subst e
    obtain ⟨k, n, rfl, rfl⟩ := optI_some hm
    obtain ⟨hc, rfl⟩ := bnd_some h1
    exact sliceBound_ok hc
  have q1 : mx = none → M = cap := by
    intro e; subst e; simp only [optI, Option.some.injEq] at hm; subst hm; simpa [bnd] using h1.symm
  have q2 : hi = none → H = len := by
    intro e; subst e; simp only [optI, Option.some.injEq] at hh; subst hh; simpa [bnd] using h2.symm
  have q3 : lo = none → L = 0 := by
    intro e; subst e; simp only [optI, Option.some.injEq] at hl; subst hl; simpa [bnd] using h3.symm
  unfold Instr.sliceBounds
  cases mx with
  | none =>
    have := q1 rfl; subst this
    cases hi with
    | none =>
      have := q2 rfl; subst this
      cases lo with
      | none => have := q3 rfl; subst this; rfl
      | some u => simp [p3 (v := u) rfl]
    | some v =>
      cases lo with
      | none => have := q3 rfl; subst this; simp [p2 (v := v) rfl]
      | some u => simp [p2 (v := v) rfl, p3 (v := u) rfl]
  | some x =>
    cases hi with
    | none => exact absurd ⟨rfl, rfl⟩ hn
    | some v =>
      cases lo with
      | none => have := q3 rfl; subst this; simp [p1 (v := x) rfl, p2 (v := v) rfl]
      | some u => simp [p1 (v := x) rfl, p2 (v := v) rfl, p3 (v := u) rfl]

theorem slc_ok {base : Option Addr} {len cap size : Nat} {lo hi mx : Option Int} {q : Option Addr × Nat × Nat} (h : slc base len cap size lo hi mx = some q) :
    ∃ L H M, bnd mx cap cap = some M ∧ bnd hi len M = some H ∧ bnd lo 0 H = some L ∧
      q = (if M = L then base else base.map (·.add (L * size)), H - L, M - L) := by
  unfold slc at h
  obtain ⟨M, h1, h⟩ := bind_some_iff' h
  obtain ⟨H, h2, h⟩ := bind_some_iff' h
  obtain ⟨L, h3, h⟩ := bind_some_iff' h
  simp only [Option.some.injEq] at h
  exact ⟨L, H, M, h1, h2, h3, h.symm⟩

theorem evSlice_ok {t : TypeId} {x : Value} {lo hi mx : Option Value} {K : Value → Option β} (h0 : evSlice P t x lo hi mx K = some r) :
    ∃ v, (Instr.sliceAt t x lo hi mx).run P w = .ok v w ∧ K v = some r := by
  unfold evSlice at h0
  obtain ⟨l, hl, hx1⟩ := bind_some_iff' h0
  clear h0
  obtain ⟨hh, hhi, hx2⟩ := bind_some_iff' hx1
  clear hx1
  obtain ⟨m, hm, h⟩ := bind_some_iff' hx2
  clear hx2
  split at h
  · cases h
  · rename_i hn
    split at h
    · rename_i s ht
      split at h
      · cases h
      · rename_i hmx
        have hmn : mx = none := by cases mx with | none => rfl | some v => exact absurd rfl hmx
        subst hmn
        obtain ⟨s', h1, h2⟩ := bind_some_iff' h
        unfold strSlc at h1
        obtain ⟨H, b1, h3⟩ := bind_some_iff' h1
        obtain ⟨L, b2, h4⟩ := bind_some_iff' h3
        simp only [Option.some.injEq] at h4
        subst h4
        refine ⟨_, ?_, h2⟩
        have := sliceBounds_ok (P := P) (w := w) (isS := false) (len := s.size) (cap := s.size) (M := s.size) hl hhi (mx := none) rfl (by simp) rfl b1 b2
        simp [Instr.sliceAt, run_underlying ht, Instr.slice, this]
    · rename_i e a len cap ht
      split at h
      · rename_i inf hi'
        obtain ⟨q, h1, h2⟩ := bind_some_iff' h
        obtain ⟨L, H, M, b1, b2, b3, rfl⟩ := slc_ok h1
        refine ⟨_, ?_, h2⟩
        have := sliceBounds_ok (P := P) (w := w) (isS := true) hl hhi hm hn b1 b2 b3
        simp [Instr.sliceAt, run_underlying ht, Instr.slice, this, run_sizeOf hi']
      · cases h
    · rename_i n e a ht
      split at h
      · rename_i inf hi'
        obtain ⟨q, h1, h2⟩ := bind_some_iff' h
        obtain ⟨L, H, M, b1, b2, b3, rfl⟩ := slc_ok h1
        refine ⟨_, ?_, h2⟩
        have := sliceBounds_ok (P := P) (w := w) (isS := false) hl hhi hm hn b1 b2 b3
        simp [Instr.sliceAt, run_underlying ht, Instr.sureAddr, this, run_sizeOf hi']
        split <;> rfl
      · cases h
    · cases h

theorem checkKey_plain {kt : TypeId} {d : TypeDesc} {k : Value} {b : Bool} (h : P.underlying kt = some d) (hp : plainKey d = true) (n : Nat) :
    (Instr.checkKey b (n + 1) kt k).run P w = .ok () w := by
  unfold Instr.checkKey
  simp only [Sem.run_bind, run_underlying h, Result.andThen_ok]
  cases d <;> first | (simp [plainKey] at hp; done) | (cases k <;> rfl)

theorem findKey_ok {kt : TypeId} {d : TypeDesc} {k : Value} {es : List MapEntry} {o : Option (Nat × Value)} (h : P.underlying kt = some d) (hf : Instr.findNow d k es 0 = some o) :
    (Instr.findKey kt k es).run P w = .ok o w := by
  unfold Instr.findKey
  simp only [Sem.run_bind, run_underlying h, Result.andThen_ok, hf]
  rfl

theorem run_getMap {r : Nat} {es : Array MapEntry} {c : Nat} (h : w.heap[r]? = some (.map es c)) : (getObj r).run P w = .ok (.map es c) w := by
  simp [getObj, Sem.run, h]

theorem run_setMap {r : Nat} {es : Array MapEntry} {c : Nat} {o : Obj} (h : w.heap[r]? = some (.map es c)) : (setObj r o).run P w = .ok () (w.setBlk r o) := by
  simp [setObj, Sem.run, h, World.setBlk]

theorem evLookup_ok {t : TypeId} {x k : Value} {ok : Bool} {K : Value → Option β} (h : evLookup P t x k ok w K = some r) :
    ∃ v, (Instr.lookup t x k ok).run P w = .ok v w ∧ K v = some r := by
  unfold evLookup at h
  split at h
  · rename_i kt e m ht
    split at h
    · rename_i d hd
      split at h
      · rename_i hp
        split at h
        · rename_i z hz
          obtain ⟨o, h1, h2⟩ := bind_some_iff' h
          have h3 := castV_ok h2
          unfold mLook at h1
          obtain ⟨es, h4, h5⟩ := bind_some_iff' h1
          obtain ⟨o', h6, h7⟩ := bind_some_iff' h5
          simp only [Option.some.injEq] at h7
          subst h7
          refine ⟨_, ?_, h3⟩
          cases m with
          | none =>
            simp only [mEnt, Option.some.injEq] at h4; subst h4
            simp [Instr.lookup, run_underlying ht, checkKey_plain hd hp, findKey_ok hd h6]
            cases o' with
            | none => simp [run_zeroValue hz]
            | some p => simp
          | some r0 =>
            simp only [mEnt] at h4
            split at h4
            · rename_i es0 c0 hr
              simp only [Option.some.injEq] at h4
              subst h4
              simp [Instr.lookup, run_underlying ht, run_getMap hr, checkKey_plain hd hp, findKey_ok hd h6]
              cases o' with
              | none => simp [run_zeroValue hz]
              | some p => simp
            · cases h4
        · cases h
      · cases h
    · cases h
  · cases h

theorem findNow_some {d : TypeDesc} {k v : Value} {i : Nat} : ∀ {es : List MapEntry} {n : Nat}, Instr.findNow d k es n = some (some (i, v)) →
    ∃ e, es[i - n]? = some e ∧ n ≤ i ∧ e.val = v ∧ Instr.sameNow d k e.key = some true
  | [], n, h => by simp [Instr.findNow] at h
  | e :: es, n, h => by
    unfold Instr.findNow at h
    split at h
    · rename_i hs
      simp only [Option.some.injEq, Prod.mk.injEq] at h
      obtain ⟨rfl, rfl⟩ := h
      exact ⟨e, by simp, Nat.le_refl _, rfl, hs⟩
    · obtain ⟨e1, h1, h2, h3⟩ := findNow_some h
      refine ⟨e1, ?_, by omega, h3⟩
      rw [show i - n = (i - (n + 1)) + 1 by omega]
      simpa using h1
    · cases h

theorem sameBits_of_sameNow {d : TypeDesc} {k k' : Value} (h : Instr.sameNow d k k' = some true) (n : Nat) : Instr.sameBits n k' k = true := by
  unfold Instr.sameNow at h
  split at h
  · split at h
    · rename_i hk
      simp only [Option.some.injEq, beq_iff_eq] at h
      subst hk h
      cases n <;> simp [Instr.sameBits]
    · cases h
  · rename_i a b
    simp only [Option.some.injEq] at h
    have e : a.data = b.data := by
      have h' : decide (a.data = b.data) = true := by
        have : (a == b) = (a.data == b.data) := rfl
        rw [this] at h
        simpa using h
      exact of_decide_eq_true h'
    have : a = b := by cases a; cases b; simp_all
    subst this
    cases n <;> simp only [Instr.sameBits, h]
  · simp only [Option.some.injEq, beq_iff_eq] at h
    subst h
    cases n <;> simp [Instr.sameBits]
  · cases h

theorem run_mapUpdate {t kt e : TypeId} {d : TypeDesc} {m : Option Nat} {k v : Value} {w' : World} (ht : P.underlying t = some (.map kt e)) (hd : P.underlying kt = some d)
    (hp : plainKey d = true) (h : mUpd d w m k v = some w') : (Instr.mapUpdate t (.map m) k v).run P w = .ok () w' := by
  unfold mUpd at h
  split at h
  · cases h
  · rename_i r0
    split at h
    · rename_i es c hr
      split at h
      · rename_i i v0 hf
        simp only [Option.some.injEq] at h
        subst h
        obtain ⟨e1, h1, _, h3, h4⟩ := findNow_some hf
        have hkey : (((es[i]?).map (·.key)).getD k) = e1.key := by
          have : es[i]? = some e1 := by simpa using h1
          simp [this]
        have hstay : (Instr.keyThatStays (((es[i]?).map (·.key)).getD k) k).run P w = .ok k w := by
          rw [hkey]
          unfold Instr.keyThatStays
          rw [if_pos (sameBits_of_sameNow h4 10000)]
          rfl
        simp only [Instr.mapUpdate, Sem.run_bind, run_underlying ht, Result.andThen_ok, run_getMap hr, checkKey_plain hd hp, findKey_ok hd hf, hstay, run_setMap hr]
      · rename_i hf
        simp only [Option.some.injEq] at h
        subst h
        simp only [Instr.mapUpdate, Sem.run_bind, run_underlying ht, Result.andThen_ok, run_getMap hr, checkKey_plain hd hp, findKey_ok hd hf, run_setMap hr]
      · cases h
    · cases h

theorem evMapUpd_ok {t : TypeId} {x k v : Value} {K : World → Option β} (h : evMapUpd P t x k v w K = some r) :
    ∃ w', (Instr.mapUpdate t x k v).run P w = .ok () w' ∧ K w' = some r := by
  unfold evMapUpd at h
  split at h
  · rename_i kt e m ht
    split at h
    · rename_i d hd
      split at h
      · rename_i hp
        obtain ⟨w', h1, h2⟩ := bind_some_iff' h
        exact ⟨w', run_mapUpdate ht hd hp h1, h2⟩
      · cases h
    · cases h
  · cases h

theorem run_mapM_pure {α γ : Type} (f : α → Sem γ) (g : α → γ) (w : World) : ∀ (l : List α), (∀ a ∈ l, (f a).run P w = .ok (g a) w) → (l.mapM f).run P w = .ok (l.map g) w
  | [], _ => rfl
  | a :: l, h => by
    simp only [List.mapM_cons, Sem.run_bind, h a (by simp), Result.andThen_ok, run_mapM_pure f g w l (fun b hb => h b (by simp [hb])), Sem.run_pure, List.map_cons]

theorem run_mapM_array {α γ : Type} (f : α → Sem γ) (g : α → γ) (w : World) (xs : Array α) (h : ∀ a ∈ xs, (f a).run P w = .ok (g a) w) : (xs.mapM f).run P w = .ok (xs.map g) w := by
  have h1 := run_mapM_pure (P := P) f g w xs.toList (fun a ha => h a (by simpa using ha))
  rw [Array.mapM_eq_mapM_toList, Sem.run_map, h1]
  simp only [Result.andThen_ok]
  congr 1
  apply Array.ext'
  simp

theorem evBuild_ok {t : TypeId} {parts : Array (Nat × Value)} {K : Value → Option β} (h : evBuild P t parts K = some r) :
    ∃ v, (Instr.build t parts).run P w = .ok v w ∧ K v = some r := by
  unfold evBuild at h
  split at h
  · rename_i fs z ht hz
    split at h
    · rename_i hall
      obtain ⟨cells, h1, h2⟩ := bind_some_iff' h
      refine ⟨_, ?_, h2⟩
      have hm : (fs.mapM (m := Sem) fun f => do pure (f.offset, ← sizeOf f.type)).run P w = .ok (fs.map fun f => (f.offset, sizeT P f.type)) w := by
        refine run_mapM_array _ (fun f => (f.offset, sizeT P f.type)) w fs ?_
        intro f hf
        have := (Array.all_eq_true'.1 hall) f hf
        obtain ⟨i, hi⟩ := Option.isSome_iff_exists.1 this
        simp [run_sizeOf hi, sizeT_of hi]
      simp only [Instr.build, Sem.run_bind, run_zeroValue hz, Result.andThen_ok, run_underlying ht, hm, h1]
      rfl
    · cases h
  · rename_i n e z ht hz
    split at h
    · rename_i hall
      obtain ⟨i, hi⟩ := Option.isSome_iff_exists.1 hall
      obtain ⟨cells, h1, h2⟩ := bind_some_iff' h
      refine ⟨_, ?_, h2⟩
      rw [sizeT_of hi] at h1
      simp only [Instr.build, Sem.run_bind, run_zeroValue hz, Result.andThen_ok, run_underlying ht, run_sizeOf hi, h1]
      rfl
    · cases h
  · cases h

theorem evBuildS_ok {t : TypeId} {len : Nat} {parts : Array (Nat × Value)} {K : Value → World → Option β} (h : evBuildS P t len parts w K = some r) :
    ∃ v w', (Instr.buildSlice t len parts).run P w = .ok v w' ∧ K v w' = some r := by
  unfold evBuildS at h
  split at h
  · rename_i e ht
    split at h
    · rename_i i z hi hz
      split at h
      · cases h
      · rename_i hb
        obtain ⟨cells, h1, h2⟩ := bind_some_iff' h
        refine ⟨_, _, ?_, h2⟩
        simp only [Instr.buildSlice, Sem.run_bind, run_underlying ht, Result.andThen_ok, run_sizeOf hi]
        rw [if_neg hb]
        by_cases h0 : len * i.size = 0
        · rw [h0] at h1
          have e0 : (Array.range 0).map (z.cells[· % z.cells.size]!) = (Array.range 0).map ((#[] : Array Value)[· % (#[] : Array Value).size]!) := by simp
          rw [e0] at h1
          simp only [h0, if_true, Sem.run_bind, Sem.run_pure, Result.andThen_ok, h1]
          simp [newRow]
        · rw [if_neg h0]
          simp only [Sem.run_bind, run_zeroValue hz, Result.andThen_ok, Sem.run_pure, h1]
          simp [newRow]
    · cases h
  · cases h

theorem wrap64_id {n : Int} (h0 : 0 ≤ n) (h1 : n < 9223372036854775808) : IntKind.i64.wrap n = n := by
  have e : IntKind.i64.wrap n = if n % 18446744073709551616 ≥ 9223372036854775808 then n % 18446744073709551616 - 18446744073709551616 else n % 18446744073709551616 := by
    simp [IntKind.wrap, IntKind.bits, IntKind.signed]
  rw [e, Int.emod_eq_of_lt h0 (by omega), if_neg (by omega)]

theorem evMakeS_ok {t : TypeId} {l c : Value} {K : Value → World → Option β} (h : evMakeS P t l c w K = some r) :
    ∃ v w', (Instr.makeSlice t l c).run P w = .ok v w' ∧ K v w' = some r := by
  unfold evMakeS at h
  split at h
  · rename_i e k1 l k2 c ht
    split at h
    · rename_i i z hi hz
      split at h
      · rename_i hc
        obtain ⟨c1, c2, c3, c4, c5⟩ := hc
        refine ⟨_, _, ?_, h⟩
        have wl : IntKind.i64.wrap l = l := wrap64_id c1 (by omega)
        have wc : IntKind.i64.wrap c = c := wrap64_id (by omega) c3
        simp only [Instr.makeSlice, Sem.run_bind, run_underlying ht, Result.andThen_ok, asInt, asIntOf, Sem.run_pure, run_typeInfo hi, wl, wc]
        have hif : ((decide (c < 0) || decide ((i.bytes : Int) * c > 2 ^ 48)) || decide (l < 0) || decide (l > c)) = false := by
          simp only [Bool.or_eq_false_iff, decide_eq_false_iff_not]
          refine ⟨⟨⟨by omega, by omega⟩, by omega⟩, by omega⟩
        rw [if_neg (by rw [hif]; simp)]
        simp only [Sem.run_bind, run_askRoom, Result.andThen_ok, run_sizeOf hi]
        by_cases h0 : c.toNat * i.size = 0
        · have e0 : zrow z 0 = (Array.range 0).map ((#[] : Array Value)[· % (#[] : Array Value).size]!) := by simp [zrow]
          rw [h0, e0]
          simp only [if_true, Sem.run_bind, Sem.run_pure, Result.andThen_ok]
          simp [newRow]
        · rw [if_neg h0]
          simp only [Sem.run_bind, run_zeroValue hz, Result.andThen_ok, Sem.run_pure]
          simp [newRow, zrow]
      · cases h
    · cases h
  · cases h
end
end Go.Ev
