/-
  WalI: lemmas on what Go functions of this seat come to (for whatever arguments, as each says). No condition but those that stand in each lemma.
-/
import Derived.Test.YtnflklkjjjlpaaaWalH
import Derived.Test.YtnflklkjjjlpaaaWalL8
namespace Go.Proofs.Ytnflklkjjjlpaaa
open Go Go.Ev Go.Crc
set_option maxRecDepth 100000
set_option linter.unusedVariables false
set_option linter.unusedSimpArgs false

theorem lso_mono {el : TypeId} {B C : Nat → Prop} {w : World} {v : Option Addr × Nat × Nat} {ps : List (List Int)} (h : LsO el B (ElO 5 .u8 B) w v ps) (hB : ∀ y, B y → C y) : LsO el C (ElO 5 .u8 C) w v ps := by
  obtain ⟨qs, h1, h2, h3, h4⟩ := h
  exact ⟨qs, h1, h2, fun y hy => hB y (h3 y hy), fun i hi hi' => ⟨(h4 i hi hi').1, fun y hy => hB y ((h4 i hi hi').2 y hy)⟩⟩
theorem lso_alive {el : TypeId} {B : Nat → Prop} {w : World} {v : Option Addr × Nat × Nat} {ps : List (List Int)} (h : LsO el B (ElO 5 .u8 B) w v ps) :
    LsO el (fun y => B y ∧ y < w.heap.size) (ElO 5 .u8 (fun y => B y ∧ y < w.heap.size)) w v ps := by
  obtain ⟨qs, h1, h2, h3, h4⟩ := h
  exact ⟨qs, h1, h2, fun y hy => ⟨h3 y hy, own_lt h1 y hy⟩, fun i hi hi' => ⟨(h4 i hi hi').1, fun y hy => ⟨(h4 i hi hi').2 y hy, own_lt (h4 i hi hi').1 y hy⟩⟩⟩

/-- the world between two ops -/
structure PW (W x : World) (D : Nat → Prop) (A : List (ByteArray × FV)) (fuse : Int) (dead : Bool) (all : List (List Int)) (least count wb fb tb : Nat) (q : Option Addr × Nat × Nat) : Prop where
  ws : WS x D (W.heap.size + 1) A fuse dead wb fb tb nmW (count : Int)
  law : PLaw A dead all least count
  hD : ∀ y, D y → W.heap.size ≤ y
  hX : ∀ y, Xw wb fb tb y → W.heap.size ≤ y
  fr : Fr [] W x
  ls : ∃ R : Nat → Prop, LsO 31 R (ElO 5 .u8 R) x q all ∧ ∀ y, R y → W.heap.size ≤ y ∧ y < x.heap.size ∧ ¬ D y ∧ ¬ Xw wb fb tb y

section
variable {W x : World} {D : Nat → Prop} {A : List (ByteArray × FV)} {fuse : Int} {dead : Bool} {all : List (List Int)} {least count wb fb tb : Nat} {q : Option Addr × Nat × Nat}

theorem PW.fr0 (h : PW W x D A fuse dead all least count wb fb tb q) {x' : World} (f : Fr [] x x') : PW W x' D A fuse dead all least count wb fb tb q := by
  obtain ⟨R, l, hR⟩ := h.ls
  have z := f.size
  have ff := h.fr
  exact ⟨h.ws.fr f (by simp), h.law, h.hD, h.hX, (Fr.mono (Fr.app ff f) (by have z0_ := Fr.size ff; have z1_ := Fr.size f; intro y_ hy_ hl_; grind [blkOf])), R, l.fr (stays_o _ _ _) f (by simp), fun y hy => ⟨(hR y hy).1, by have := (hR y hy).2.1; omega, (hR y hy).2.2⟩⟩

/-- the log and its disk go on, the list stays -/
theorem PW.did (h : PW W x D A fuse dead all least count wb fb tb q) {x' : World} {D' : Nat → Prop} {A' : List (ByteArray × FV)} {fuse' : Int} {dead' : Bool} {least' count' : Nat} (i : Did D wb fb tb x x' D')
    (s : WS x' D' (W.heap.size + 1) A' fuse' dead' wb fb tb nmW (count' : Int)) (l : PLaw A' dead' all least' count') : PW W x' D' A' fuse' dead' all least' count' wb fb tb q := by
  obtain ⟨F, hD'⟩ := i.fresh h.fr h.hD h.hX
  obtain ⟨R, lo, hR⟩ := h.ls
  have new := i.new
  have z := i.size
  obtain ⟨S, f, hS⟩ := i.fr
  refine ⟨s, l, hD', h.hX, F, R, lo.fr (stays_o _ _ _) f (fun y hy _ hr => ?_), fun y hy => ⟨(hR y hy).1, by have := (hR y hy).2.1; omega, fun hd => ?_, (hR y hy).2.2.2⟩⟩
  · rcases hS y hy with hh | hh
    · exact (hR y hr).2.2.1 hh
    · exact (hR y hr).2.2.2 hh
  · rcases new y hd with hh | hh
    · exact (hR y hy).2.2.1 hh
    · have := (hR y hy).2.1; omega

theorem PW.dls (h : PW W x D A fuse dead all least count wb fb tb q) {x' : World} {D' : Nat → Prop} (i : Did D wb fb tb x x' D') :
    Fr [] W x' ∧ (∀ y, D' y → W.heap.size ≤ y) ∧ ∃ R : Nat → Prop, LsO 31 R (ElO 5 .u8 R) x' q all ∧ ∀ y, R y → W.heap.size ≤ y ∧ y < x'.heap.size ∧ ¬ D' y ∧ ¬ Xw wb fb tb y := by
  obtain ⟨F, hD'⟩ := i.fresh h.fr h.hD h.hX
  obtain ⟨R, lo, hR⟩ := h.ls
  have new := i.new
  have z := i.size
  obtain ⟨S, f, hS⟩ := i.fr
  refine ⟨F, hD', R, lo.fr (stays_o _ _ _) f (fun y hy _ hr => ?_), fun y hy => ⟨(hR y hy).1, by have := (hR y hy).2.1; omega, fun hd => ?_, (hR y hy).2.2.2⟩⟩
  · rcases hS y hy with hh | hh
    · exact (hR y hr).2.2.1 hh
    · exact (hR y hr).2.2.2 hh
  · rcases new y hd with hh | hh
    · exact (hR y hy).2.2.1 hh
    · have := (hR y hy).2.1; omega

/-- one is put to the list -/
theorem push_ls {R : Nat → Prop} {qp : Option Addr × Nat × Nat} {p : List Int} (ws : WS x D (W.heap.size + 1) A fuse dead wb fb tb nmW (count : Int)) (l : PLaw A dead (all ++ [p]) least count) (hD : ∀ y, D y → W.heap.size ≤ y) (hX : ∀ y, Xw wb fb tb y → W.heap.size ≤ y)
    (fr : Fr [] W x) (lo : LsO 31 R (ElO 5 .u8 R) x q all) (hR : ∀ y, R y → W.heap.size ≤ y ∧ y < x.heap.size ∧ ¬ D y ∧ ¬ Xw wb fb tb y) (o : Own x 5 1 qp (p.map (Value.int .u8))) (ho : ∀ y ∈ blkOf qp, W.heap.size ≤ y ∧ ¬ D y ∧ ¬ Xw wb fb tb y) (hn : all.length < 600000) :
    ∃ q' x', callB Try.prog .append #[22, 22] 22 #[false, false] #[.slice q.1 q.2.1 q.2.2, .slice (some ⟨x.heap.size, 0, none⟩) 1 1] (x.alloc (.cells #[.slice qp.1 qp.2.1 qp.2.2] 31)) = some (.slice q'.1 q'.2.1 q'.2.2, x') ∧
      PW W x' D A fuse dead (all ++ [p]) least count wb fb tb q' := by
  have lo' : LsO 31 (fun y => (W.heap.size ≤ y ∧ ¬ D y ∧ ¬ Xw wb fb tb y)) (ElO 5 .u8 (fun y => (W.heap.size ≤ y ∧ ¬ D y ∧ ¬ Xw wb fb tb y))) x q all := lso_mono lo fun y hy => ⟨(hR y hy).1, (hR y hy).2.2⟩
  have hltD := ws.dk.lt
  have hltX := ws.wl.lt
  have z := fr.size
  obtain ⟨q', x', e, l', f, _⟩ := push22 (stays_o 5 .u8 _) (q := qp) (p := p) lo' ⟨o, ho⟩
    (fun q' p' w' ⟨k1, k2⟩ kf => ⟨k1.fr kf (by obtain ⟨qs, h1, _⟩ := lo'; exact Own.apart k1 h1 (by decide)), k2⟩) (by omega)
    (by intro y hy; exact ⟨by omega, fun hh => by have := hltD y hh; omega, fun hh => by have := hltX y hh; omega⟩) #[false, false]
  have hq : ∀ y ∈ blkOf q, W.heap.size ≤ y ∧ ¬ D y ∧ ¬ Xw wb fb tb y := by obtain ⟨qs, _, _, h3, _⟩ := lo'; exact h3
  have F : Fr [] W x' := (Fr.mono (Fr.app fr f) (by have z0_ := Fr.size fr; have z1_ := Fr.size f; intro y_ hy_ hl_; grind [blkOf]))
  refine ⟨q', x', e, ws.fr f (fun y hy _ => (hq y hy).2), l, hD, hX, F, _, lso_alive l', fun y hy => ⟨hy.1.1, hy.2, hy.1.2⟩⟩

/-- the list becomes another, made anew -/
theorem PW.anew (h : PW W x D A fuse dead all least count wb fb tb q) {q' : Option Addr × Nat × Nat} {all' : List (List Int)} {least' count' : Nat} {R : Nat → Prop} (lo : LsO 31 R (ElO 5 .u8 R) x q' all') (hR : ∀ y, R y → y < x.heap.size → W.heap.size ≤ y ∧ ¬ D y ∧ ¬ Xw wb fb tb y)
    (hc : count' = count) (l : PLaw A dead all' least' count') : PW W x D A fuse dead all' least' count' wb fb tb q' := by
  subst hc
  refine ⟨h.ws, l, h.hD, h.hX, h.fr, _, lso_alive lo, fun y hy => ?_⟩
  have := hR y hy.1 hy.2
  exact ⟨this.1, hy.2, this.2⟩

/-- is this list a beginning of that one, and no shorter than so? -/
theorem prefix29 {w : World} {u v : Option Addr × Nat × Nat} {B C : Nat → Prop} {j : Nat} (hu : Lst .u8 w B u (all.take j)) (hv : Lst .u8 w C v all) (hc : v.2.1 ≤ v.2.2) (hj : j ≤ all.length) (hl : least ≤ j) (hn : all.length < 9223372036854775807) (hs : ∀ p ∈ all, p.length < 9223372036854775807) :
    ∃ w', callF Try.prog 29 #[.slice u.1 u.2.1 u.2.2, .slice v.1 v.2.1 v.2.2, .int .i64 (least : Int)] w = some (.bool true, w') ∧ Fr [] w w' := by
  have l1 := hu.len
  have l2 := hv.len
  rw [List.length_take, Nat.min_eq_left hj] at l1
  have hcut := Lst.cut hv (j := j) hj hc
  obtain ⟨w', e, f⟩ := samelist19 hu hcut (by rw [List.length_take]; omega) (fun p hp => hs p (List.mem_of_mem_take hp))
  have hd : decide (all.take j = all.take j) = true := by simp
  have hsl := slc_to (u := v) (n := 1) (j := j) (by omega)
  have g1 : (u.2.1 : Int) ≥ (least : Int) := by omega
  have g2 : (u.2.1 : Int) ≤ (v.2.1 : Int) := by omega
  have g3 : u.2.1 = j := l1.symm
  refine ⟨w', g29_call ?_, f⟩
  rw [g3] at e g1 g2
  unfold g29
  simp only [g3, g1, g2, hsl, e, hd, Option.bind_some, asP_pointer, asB_bool, asI_int, asS_string, asSl_slice, asM_map, asTup0, asTup1, asTup2, asTup3, asTup4, asTup5, getD0, getD1, getD2, getD3, getD4, Bool.not_true, Bool.not_false, Bool.false_eq_true, Bool.true_eq_false, ↓reduceIte, decide_true, decide_false, Option.isNone_some, Option.isNone_none, Option.isSome_some, Option.isSome_none, beq_self_eq_true, bne_self_eq_false, Bool.and_true, Bool.true_and, Bool.and_false, Bool.false_and, not_true_eq_false, not_false_eq_true]

/-- after each op: the log knows how many there are -/
theorem tail22 (h : PW W x D A fuse dead all least count wb fb tb q) {s13 : Bool × Option Addr × (Option Addr × Nat × Nat) × (Option Addr × Nat × Nat) × Int × Bool × Int} {k : Nat} (hs : s13.1 = false ∧ s13.2.2.2.2.2.2 = (k : Int)) (hk : k < 9223372036854775806) (wh : Option Addr × Nat × Nat) (n : Int) (hn : n = (least : Int)) (db : Bool) :
    g8_j22 (some ⟨W.heap.size + 1, 0, none⟩) s13 (some ⟨wb, 0, none⟩) q wh n db x = some (.normal, (false, some ⟨wb, 0, none⟩, q, wh, (least : Int), db, ((k + 1 : Nat) : Int)), x) := by
  subst hn
  have e1 := dead12 h.ws.dk
  have hw := wrap_succ (n := k) (by omega)
  obtain ⟨R, lo, _⟩ := h.ls
  have hl := lo.len
  cases dead with
  | true =>
    unfold g8_j22
    simp only [e1, hs.1, hs.2, hw, Option.bind_some, asP_pointer, asB_bool, asI_int, asS_string, asSl_slice, asM_map, asTup0, asTup1, asTup2, asTup3, asTup4, asTup5, getD0, getD1, getD2, getD3, getD4, Bool.not_true, Bool.not_false, Bool.false_eq_true, Bool.true_eq_false, ↓reduceIte, decide_true, decide_false, Option.isNone_some, Option.isNone_none, Option.isSome_some, Option.isSome_none, beq_self_eq_true, bne_self_eq_false, Bool.and_true, Bool.true_and, Bool.and_false, Bool.false_and, not_true_eq_false, not_false_eq_true]
  | false =>
    have e2 := count18 h.ws.wl
    have hc := h.law.cnt rfl
    have hq : (((count : Nat) : Int) != (q.2.1 : Int)) = false := by
      have : ((count : Nat) : Int) = (q.2.1 : Int) := by omega
      simp [this]
    unfold g8_j22
    simp only [e1, e2, hq, hs.1, hs.2, hw, Option.bind_some, asP_pointer, asB_bool, asI_int, asS_string, asSl_slice, asM_map, asTup0, asTup1, asTup2, asTup3, asTup4, asTup5, getD0, getD1, getD2, getD3, getD4, Bool.not_true, Bool.not_false, Bool.false_eq_true, Bool.true_eq_false, ↓reduceIte, decide_true, decide_false, Option.isNone_some, Option.isNone_none, Option.isSome_some, Option.isSome_none, beq_self_eq_true, bne_self_eq_false, Bool.and_true, Bool.true_and, Bool.and_false, Bool.false_and, not_true_eq_false, not_false_eq_true]
end
end Go.Proofs.Ytnflklkjjjlpaaa
