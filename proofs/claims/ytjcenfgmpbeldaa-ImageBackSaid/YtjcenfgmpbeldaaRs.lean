/-
  Rs: what comes in reads as data in which each list and each text takes at most the reach (for whatever program). No condition but those that stand in each lemma.
-/
import Derived.Test.YtjcenfgmpbeldaaRd
import Derived.SizedLaws
namespace Go.Ev
open Go Go.WideShapes

/-- where what is laid behind so many bytes ends, at least -/
def Ty.lst : Nat → Ty → Nat
  | o, .int .u8 => o + 1
  | o, .bool => o + 1
  | o, .int .i64 => (o + 7) / 8 * 8 + 8
  | o, .int .u64 => (o + 7) / 8 * 8 + 8
  | o, .int _ => o + 1
  | o, .str => (o + 7) / 8 * 8 + 16
  | o, .slice _ => (o + 7) / 8 * 8 + 24
  | o, .nil => (o + 7) / 8 * 8
  | o, .cons t ts => Ty.lst (Ty.lst o t) ts

/-- so many bytes a value takes at least -/
def Ty.least (t : Ty) : Nat := Ty.lst 0 t

/-- each list and each text takes at most the reach -/
def Ty.Fits : (t : Ty) → t.Val → Prop
  | .int _, _ => True
  | .bool, _ => True
  | .str, s => s.size ≤ reachBytes
  | .slice t, x => x.2.length * t.least ≤ reachBytes ∧ ∀ y ∈ x.2, t.Fits y
  | .nil, _ => True
  | .cons t ts, x => t.Fits x.1 ∧ ts.Fits x.2

def leastFs (g : TypeId → Ty → Bool) : List Field → Ty → Bool
  | [], .nil => true
  | f :: fs, .cons t ts => g f.type t && leastFs g fs ts
  | _, _ => false

/-- are the sizes such as are taken here? -/
def leastTy (P : Program) : Nat → TypeId → Ty → Bool
  | 0, _, _ => false
  | n + 1, t, c => match P.underlying t, c with
    | some (.int _), .int _ => true
    | some .bool, .bool => true
    | some .string, .str => true
    | some (.slice e), .slice c' => decide (c'.least ≤ P.bytesOf e) && leastTy P n e c'
    | some (.struct fs), c => leastFs (leastTy P n) fs.toList c
    | _, _ => false

theorem weightsAll_mem {H : Type} {P : Program} {e : TypeId} : ∀ {l : List (DataW H)} {d : DataW H}, d ∈ l → ∀ n ∈ d.weights P e, n ∈ DataW.weightsAll P e l
  | d0 :: l, d, hd, n, hn => by
    simp only [DataW.weightsAll, List.mem_append]
    rcases List.mem_cons.1 hd with rfl | h
    · exact .inl hn
    · exact .inr (weightsAll_mem h n hn)

theorem Fits.sl {t : Ty} {x : (Ty.slice t).Val} (h : Ty.Fits (.slice t) x) : x.2.length * t.least ≤ 140737488351232 := h.1

theorem Fits.u8 {x : (Ty.slice (.int .u8)).Val} (h : Ty.Fits (.slice (.int .u8)) x) : x.2.length ≤ 140737488351232 := by
  have : x.2.length * 1 ≤ 140737488351232 := Fits.sl h
  omega

theorem Fits.i64 {x : (Ty.slice (.int .i64)).Val} (h : Ty.Fits (.slice (.int .i64)) x) : x.2.length * 8 ≤ 140737488351232 := Fits.sl h

section
variable {H : Type} {enc : TypeId × Value → H} {P : Program} {w : World} {base : Nat} {spare : Nat → Bool} {held : Bool}

theorem rdS : ∀ (m : Nat) (fuel : Nat) (t : TypeId) (c : Ty) (cs : List Value) (x : DataW H × List MemPlace), okTy P m t c = true → leastTy P m t c = true →
    DataW.trod enc P w base spare held fuel t cs = some x → (∀ n ∈ x.1.weights P t, n ≤ reachBytes) → ∃ v : c.Val, c.At w cs v ∧ c.Fits v := by
  intro m
  induction m with
  | zero => intro fuel t c cs x h; cases h
  | succ m ih =>
    intro fuel t c cs x hok hle h hwt
    unfold okTy at hok
    unfold leastTy at hle
    split at hok
    · rename_i k k' ht
      have : k = k' := of_decide_eq_true hok
      subst this
      obtain ⟨n, rfl, rfl, hw⟩ := DataW.trod_int ht h
      exact ⟨n, ⟨rfl, wf_range hw⟩, trivial⟩
    · rename_i ht
      obtain ⟨b, rfl, rfl⟩ := DataW.trod_bool ht h
      exact ⟨b, rfl, trivial⟩
    · rename_i ht
      obtain ⟨s, rfl, rfl, hs⟩ := DataW.trod_string ht h
      refine ⟨s, ⟨rfl, hs⟩, ?_⟩
      have := hwt s.data.toList.length (by simp [DataW.weights])
      simpa [Ty.Fits] using this
    · rename_i e c' ht
      simp only [ht, Bool.and_eq_true, decide_eq_true_eq] at hle
      simp only [Bool.and_eq_true, beq_iff_eq] at hok
      rcases DataW.trod_slice ht h with ⟨rfl, rfl⟩ | ⟨a, len, cap, elems, rest, n, _, rfl, rfl, hb, hl, hm, hlen, hel, _, _⟩
      · exact ⟨((none, 0, 0), []), ⟨rfl, rfl, Nat.le_refl _, Nat.zero_le _, fun _ => rfl, fun a ha => (by cases ha)⟩, ⟨by simp, fun y hy => absurd hy (List.not_mem_nil)⟩⟩
      · have hall : ∀ (y : DataW H × List MemPlace), y ∈ elems → ∀ n ∈ y.1.weights P e, n ≤ reachBytes := by
          intro y hy n hn
          refine hwt n ?_
          simp only [DataW.weights, ht, List.mem_cons, List.mem_append]
          exact .inr (.inl (weightsAll_mem (List.mem_map.2 ⟨y, hy, rfl⟩) n hn))
        have htop : (elems.length + rest.length) * P.bytesOf e ≤ reachBytes := by
          refine hwt _ ?_
          simp [DataW.weights, ht]
        have each : ∀ i (hi : i < len), ∃ v : c'.Val, (∃ cs', cs'.length = c'.size ∧ CellsAt w (a.add (i * c'.size)) cs' ∧ c'.At w cs' v) ∧ c'.Fits v := by
          intro i hi
          have h1 := hel i hi
          have hi' : i < elems.length := by rw [hlen]; exact hi
          rw [List.getElem?_eq_getElem hi', hok.1] at h1
          obtain ⟨cs', h2, h3⟩ := bind_some_iff' h1
          obtain ⟨h4, h5⟩ := cells?_at h2
          obtain ⟨v, h6, h7⟩ := ih _ _ _ _ _ hok.2 hle.2 h3 (hall _ (List.getElem_mem hi'))
          exact ⟨v, ⟨cs', h4, h5, h6⟩, h7⟩
        have lst : ∀ n, n ≤ len → ∃ l : List c'.Val, l.length = n ∧ (∀ i (hi : i < l.length), ∃ cs', cs'.length = c'.size ∧ CellsAt w (a.add (i * c'.size)) cs' ∧ c'.At w cs' l[i]) ∧
            ∀ y ∈ l, c'.Fits y := by
          intro n
          induction n with
          | zero => intro _; exact ⟨[], rfl, fun i hi => absurd hi (Nat.not_lt_zero _), fun y hy => absurd hy (List.not_mem_nil)⟩
          | succ n ihn =>
            intro hn
            obtain ⟨l, h1, h2, h3⟩ := ihn (by omega)
            obtain ⟨v, h4, h5⟩ := each n (by omega)
            refine ⟨l ++ [v], by simp [h1], fun i hi => ?_, fun y hy => ?_⟩
            · by_cases hin : i < l.length
              · obtain ⟨cs', g1, g2, g3⟩ := h2 i hin
                exact ⟨cs', g1, g2, by rw [List.getElem_append_left hin]; exact g3⟩
              · have : i = n := by simp at hi; omega
                subst this
                obtain ⟨cs', g1, g2, g3⟩ := h4
                refine ⟨cs', g1, g2, ?_⟩
                rw [List.getElem_append_right (by omega)]
                simpa [h1] using g3
            · rcases List.mem_append.1 hy with h | h
              · exact h3 y h
              · rw [List.mem_singleton.1 h]; exact h5
        obtain ⟨l, h1, h2, h3⟩ := lst len (Nat.le_refl _)
        refine ⟨((some a, len, cap), l), ⟨rfl, h1, hl, hm, fun h => (by cases h), fun a' ha => ?_⟩, ?_, h3⟩
        · simp only [Option.some.injEq] at ha
          subst ha; exact h2
        · show l.length * c'.least ≤ reachBytes
          rw [h1, ← hlen]
          exact Nat.le_trans (Nat.mul_le_mul (Nat.le_add_right _ _) hle.1) htop
    · rename_i c _ _ fs ht
      have hle' : leastFs (leastTy P m) fs.toList c = true := by
        rw [ht] at hle
        cases c <;> exact hle
      simp only [Bool.and_eq_true, beq_iff_eq] at hok
      obtain ⟨xs, n, _, rfl, hcl, hxl, hf⟩ := DataW.trod_struct ht h
      have hw' : ∀ n ∈ DataW.weightsEach P (fs.toList.map (·.type)) (xs.map (·.1)), n ≤ reachBytes := by
        intro n hn
        refine hwt n ?_
        simp only [DataW.weights, ht]
        exact hn
      have key : ∀ (l : List Field) (ys : List (DataW H × List MemPlace)) (off : Nat) (c : Ty) (cs0 : List Value), okFs (okTy P m) P l off c = true → leastFs (leastTy P m) l c = true → l.length = ys.length →
          (∀ (i : Nat) (f : Field), l[i]? = some f → DataW.trod enc P w base spare held n f.type ((cs.drop f.offset).take (P.cellsOf f.type)) = ys[i]?) →
          (∀ n ∈ DataW.weightsEach P (l.map (·.type)) (ys.map (·.1)), n ≤ reachBytes) →
          cs.drop off = cs0 → cs0.length = c.size → ∃ v : c.Val, c.At w cs0 v ∧ c.Fits v := by
        intro l
        induction l with
        | nil =>
          intro ys off c cs0 hok _ hlen _ _ hcs hl0
          cases c <;> simp only [okFs] at hok <;> first | (cases hok; done) | skip
          have : cs0 = [] := List.length_eq_zero_iff.1 hl0
          exact ⟨(), this, trivial⟩
        | cons f l ihl =>
          intro ys off c cs0 hok hls hlen hread hwt hcs hl0
          cases c <;> simp only [okFs] at hok <;> first | (cases hok; done) | skip
          rename_i t1 ts
          simp only [leastFs, Bool.and_eq_true] at hls
          simp only [Bool.and_eq_true, beq_iff_eq] at hok
          obtain ⟨⟨⟨ho1, ho2⟩, ho3⟩, ho4⟩ := hok
          cases ys with
          | nil => simp at hlen
          | cons y ys =>
            simp only [List.map_cons, DataW.weightsEach, List.mem_append] at hwt
            have hy := hread 0 f rfl
            simp only [List.getElem?_cons_zero, ho1, ho2, hcs] at hy
            obtain ⟨v1, g1, g2⟩ := ih _ _ _ _ _ ho3 hls.1 hy (fun n hn => hwt n (.inl hn))
            simp only [Ty.size] at hl0
            obtain ⟨v2, g3, g4⟩ := ihl ys (off + t1.size) ts (cs0.drop t1.size) ho4 hls.2 (by simpa using hlen) (fun i f' hf' => by
              have := hread (i + 1) f' (by simpa using hf')
              simpa using this) (fun n hn => hwt n (.inr hn)) (by rw [← hcs, List.drop_drop]) (by simp; omega)
            exact ⟨(v1, v2), ⟨cs0.take t1.size, cs0.drop t1.size, (List.take_append_drop _ _).symm, by simp; omega, g1, g3⟩, g2, g4⟩
      obtain ⟨v, g1, g2⟩ := key fs.toList xs 0 c cs hok.2 hle' (by simpa using hxl.symm) (fun i f hfi => hf i f (by simpa using hfi)) hw' rfl (by omega)
      exact ⟨v, g1, g2⟩
    · cases hok
end
end Go.Ev
