/-
  FrameN: lemmas on what Go functions of this seat come to (for whatever arguments, as each says). No condition but those that stand in each lemma.
-/
import Derived.Test.YteekaakkaogpeaaFrameScans
import Derived.Test.YteekaakkaogpeaaFrameEncodes
namespace Go.Proofs.Yteekaakkaogpeaa
open Go Go.Ev Go.Crc
set_option maxRecDepth 100000
set_option linter.unusedVariables false
set_option linter.unusedSimpArgs false

theorem un4_le4 {n : Int} (h : 0 ≤ n ∧ n < 4294967296) : un4 (n % 256) (n / 256 % 256) (n / 65536 % 256) (n / 16777216 % 256) = n := by
  unfold un4; omega

theorem dec_enc {p rest : List Int} (hl : p.length ≤ 4096) : dec (enc p ++ rest) = (p, 8 + p.length, 0) := by
  have hm := more_range 0 p
  have hlen : (enc p ++ rest).length = 8 + p.length + rest.length := by rw [List.length_append, enc_length]
  have e : enc p ++ rest = le4 (p.length : Int) ++ (le4 (more 0 p) ++ (p ++ rest)) := by simp [enc]
  have g : ∀ i, i < 4 → (enc p ++ rest).getD i 0 = (le4 (p.length : Int)).getD i 0 := by
    intro i hi; rw [e]; match i, hi with | 0, _ | 1, _ | 2, _ | 3, _ => rfl
  have g' : ∀ i, i < 4 → (enc p ++ rest).getD (4 + i) 0 = (le4 (more 0 p)).getD i 0 := by
    intro i hi; rw [e]; match i, hi with | 0, _ | 1, _ | 2, _ | 3, _ => rfl
  have h1 : un4 ((enc p ++ rest).getD 0 0) ((enc p ++ rest).getD 1 0) ((enc p ++ rest).getD 2 0) ((enc p ++ rest).getD 3 0) = (p.length : Int) := by
    rw [g 0 (by omega), g 1 (by omega), g 2 (by omega), g 3 (by omega)]
    exact un4_le4 (by omega)
  have h2 : un4 ((enc p ++ rest).getD 4 0) ((enc p ++ rest).getD 5 0) ((enc p ++ rest).getD 6 0) ((enc p ++ rest).getD 7 0) = more 0 p := by
    have a := g' 0 (by omega); have b := g' 1 (by omega); have c := g' 2 (by omega); have d := g' 3 (by omega)
    rw [show (4 : Nat) + 0 = 4 from rfl] at a; rw [show (4 : Nat) + 1 = 5 from rfl] at b; rw [show (4 : Nat) + 2 = 6 from rfl] at c; rw [show (4 : Nat) + 3 = 7 from rfl] at d
    rw [a, b, c, d]
    exact un4_le4 hm
  have h3 : ((enc p ++ rest).drop 8).take p.length = p := by
    have : (enc p ++ rest).drop 8 = p ++ rest := by rw [e]; simp [le4]
    rw [this, List.take_left]
  unfold dec
  rw [if_neg (by omega)]
  simp only [h1, h2]
  rw [if_neg (by omega), if_neg (by omega), Int.toNat_natCast, h3, if_pos rfl]

/-- frames, one behind the other -/
def encs (ps : List (List Int)) : List Int := (ps.map enc).flatten

theorem encs_cons (p : List Int) (ps : List (List Int)) : encs (p :: ps) = enc p ++ encs ps := rfl
theorem encs_append (a b : List (List Int)) : encs (a ++ b) = encs a ++ encs b := by simp [encs]
theorem encs_one (p : List Int) : encs [p] = enc p := by simp [encs]

theorem scan_encs {ps : List (List Int)} {rest : List Int} (hl : ∀ p ∈ ps, p.length ≤ 4096) : scan (encs ps ++ rest) = (ps ++ (scan rest).1, (encs ps).length + (scan rest).2.1, (scan rest).2.2) := by
  induction ps with
  | nil => simp [encs]
  | cons p ps ih =>
    have ih := ih fun q hq => hl q (by simp [hq])
    have hp := hl p (by simp)
    have hd := dec_enc (p := p) (rest := encs ps ++ rest) hp
    rw [encs_cons, List.append_assoc]
    have hk : (dec (enc p ++ (encs ps ++ rest))).2.2 = 0 := by rw [hd]
    have h0 : ¬ (enc p ++ (encs ps ++ rest)).length = 0 := by rw [List.length_append, enc_length]; omega
    rw [scan_ok h0 hk, hd]
    simp only
    have hdr : (enc p ++ (encs ps ++ rest)).drop (8 + p.length) = encs ps ++ rest := by
      rw [← enc_length p, List.drop_left]
    rw [hdr, ih, List.length_append, enc_length]
    simp [Nat.add_assoc]

theorem encs_length (ps : List (List Int)) : (encs ps).length = (ps.map fun p => 8 + p.length).sum := by
  induction ps with
  | nil => rfl
  | cons p ps ih => rw [encs_cons, List.length_append, enc_length, ih]; simp

theorem encs_zs {ps : List (List Int)} (h : ∀ p ∈ ps, Zs p) : Zs (encs ps) := by
  intro z hz
  simp only [encs, List.mem_flatten, List.mem_map] at hz
  obtain ⟨l, ⟨p, hp, rfl⟩, hz⟩ := hz
  exact enc_zs (h p hp) z hz

theorem sum_bulk (ps : List (List Int)) : (ps.map fun p => 8 + p.length).sum ≤ 8 * (ps.map fun p => p.length + 1).sum := by
  induction ps with
  | nil => simp
  | cons p ps ih => simp only [List.map_cons, List.sum_cons]; omega

theorem encs_take_le (ps : List (List Int)) (k : Nat) : (encs (ps.take k)).length ≤ (encs ps).length := by
  have := encs_append (ps.take k) (ps.drop k)
  rw [List.take_append_drop] at this
  rw [this]; simp

section
variable {w : World}

/-- the document's frames of a list -/
theorem join20 {v : Option Addr × Nat × Nat} {ps : List (List Int)} {B : Nat → Prop} (h : Lst .u8 w B v ps) (hz : ∀ p ∈ ps, Zs p) (hl : (encs ps).length ≤ 268435456) (hn : ps.length ≤ 268435456) :
    ∃ (q : Option Addr × Nat × Nat) (w' : World) (ok : Bool), callF Try.prog 20 #[.slice v.1 v.2.1 v.2.2] w = some (.tuple #[.slice q.1 q.2.1 q.2.2, .bool ok], w') ∧ (ok = true ↔ ∀ p ∈ ps, p.length ≤ 4096) ∧
      (ok = true → Own w' 5 1 q ((encs ps).map (Value.int .u8))) ∧ Fr [] w w' ∧ (∀ y ∈ blkOf q, w.heap.size ≤ y) := by
  have hlen := h.len
  obtain ⟨e, t, w', g1, g2, g3⟩ := loopS_rule (b := g20_l2_b v)
    (I := fun k s x => ∃ q, s = ((none, 0, 0), false, q, (k : Int)) ∧ Own x 5 1 q ((encs (ps.take k)).map (Value.int .u8)) ∧ (∀ y ∈ blkOf q, w.heap.size ≤ y) ∧ (∀ p ∈ ps.take k, p.length ≤ 4096) ∧ Fr [] w x)
    (Q := fun e s x => Fr [] w x ∧ ((e = .exit 0 ∧ (∀ p ∈ ps, p.length ≤ 4096) ∧ Own x 5 1 s.2.2.1 ((encs ps).map (Value.int .u8)) ∧ ∀ y ∈ blkOf s.2.2.1, w.heap.size ≤ y) ∨
      (e = .ret ∧ s.1 = (none, 0, 0) ∧ s.2.1 = false ∧ ¬ (∀ p ∈ ps, p.length ≤ 4096)))) (n := ps.length)
    (fun k s x hk ⟨q, hs, ho, hb, hp, hf⟩ => by
      subst hs
      obtain ⟨a, q7, i1, c1, r1, _, _⟩ := (h.fr hf (by simp)).get hk
      have hc : (k : Int) < (v.2.1 : Int) := by omega
      have hs := wrap_succ (n := k) (by omega)
      obtain ⟨q8, x2, e2, o2, f2, h2⟩ := docencR r1 (hz _ (List.getElem_mem hk))
      by_cases hsh : ps[k].length ≤ 4096
      · have er : encR ps[k] = (enc ps[k], 0) := by unfold encR; rw [if_pos hsh]
        rw [er] at e2 o2
        have ho2 := ho.fr f2 (by simp)
        have htk : ps.take (k + 1) = ps.take k ++ [ps[k]] := List.take_succ_eq_append_getElem hk
        have hle := encs_take_le ps (k + 1)
        have hel : (encs (ps.take k) ++ enc ps[k]).length ≤ 1073741824 := by
          rw [htk, encs_append, encs_one] at hle; omega
        obtain ⟨q3, x3, e3, o3, f3, h3⟩ := app8 ho2 o2.slI (by rw [List.length_append] at hel; exact hel) #[false, false]
        have z_hf := Fr.size hf; have z_f2 := Fr.size f2; have z_f3 := Fr.size f3
        refine ⟨.normal, ((none, 0, 0), false, q3, ((k + 1 : Nat) : Int)), x3, ?_, .inl ⟨rfl, q3, rfl, ?_, ?_, ?_, (Fr.mono (Fr.app (Fr.app hf f2) f3) (by have z0_ := Fr.size hf; have z1_ := Fr.size f2; have z2_ := Fr.size f3; intro y_ hy_ hl_; grind [blkOf]))⟩⟩
        · unfold g20_l2_b
          simp only [hc, i1, c1, e2, e3, hs, Option.bind_some, asP_pointer, asB_bool, asI_int, asS_string, asSl_slice, asM_map, asTup0, asTup1, asTup2, asTup3, asTup4, asTup5, getD0, getD1, getD2, getD3, getD4, Bool.not_true, Bool.not_false, Bool.false_eq_true, Bool.true_eq_false, ↓reduceIte, decide_true, decide_false, Option.isNone_some, Option.isNone_none, Option.isSome_some, Option.isSome_none, beq_self_eq_true, bne_self_eq_false, Bool.and_true, Bool.true_and, Bool.and_false, Bool.false_and, not_true_eq_false, not_false_eq_true]
        · rw [htk, encs_append, encs_one]; exact o3
        · intro y hy
          rcases h3 with h3 | h3
          · refine hb y ?_; simp only [blkOf] at hy ⊢; rw [h3] at hy; exact hy
          · rw [h3] at hy; simp at hy; omega
        · intro p hp'
          rw [htk, List.mem_append] at hp'
          rcases hp' with hp' | hp'
          · exact hp p hp'
          · simp at hp'; subst hp'; exact hsh
      · have er : encR ps[k] = ([], 2) := by unfold encR; rw [if_neg hsh]
        rw [er] at e2
        have h20 : ((2 : Int) != 0) = true := by decide
        refine ⟨.ret, ((none, 0, 0), false, q, (k : Int)), x2, ?_, .inr ⟨by simp, (Fr.mono (Fr.app hf f2) (by have z0_ := Fr.size hf; have z1_ := Fr.size f2; intro y_ hy_ hl_; grind [blkOf])), .inr ⟨rfl, rfl, rfl, fun hall => hsh (hall _ (List.getElem_mem hk))⟩⟩⟩
        unfold g20_l2_b
        simp only [hc, i1, c1, e2, h20, Option.bind_some, asP_pointer, asB_bool, asI_int, asS_string, asSl_slice, asM_map, asTup0, asTup1, asTup2, asTup3, asTup4, asTup5, getD0, getD1, getD2, getD3, getD4, Bool.not_true, Bool.not_false, Bool.false_eq_true, Bool.true_eq_false, ↓reduceIte, decide_true, decide_false, Option.isNone_some, Option.isNone_none, Option.isSome_some, Option.isSome_none, beq_self_eq_true, bne_self_eq_false, Bool.and_true, Bool.true_and, Bool.and_false, Bool.false_and, not_true_eq_false, not_false_eq_true])
    (fun s x ⟨q, hs, ho, hb, hp, hf⟩ => by
      subst hs
      rw [List.take_length] at ho hp
      have hc : ¬ ((ps.length : Nat) : Int) < (v.2.1 : Int) := by omega
      refine ⟨.exit 0, ((none, 0, 0), false, q, ((ps.length : Nat) : Int)), x, ?_, by simp, hf, .inl ⟨rfl, hp, ho, hb⟩⟩
      unfold g20_l2_b
      simp only [hc, Option.bind_some, asP_pointer, asB_bool, asI_int, asS_string, asSl_slice, asM_map, asTup0, asTup1, asTup2, asTup3, asTup4, asTup5, getD0, getD1, getD2, getD3, getD4, Bool.not_true, Bool.not_false, Bool.false_eq_true, Bool.true_eq_false, ↓reduceIte, decide_true, decide_false, Option.isNone_some, Option.isNone_none, Option.isSome_some, Option.isSome_none, beq_self_eq_true, bne_self_eq_false, Bool.and_true, Bool.true_and, Bool.and_false, Bool.false_and, not_true_eq_false, not_false_eq_true])
    (Nat.zero_le _) (k := 0) (s := ((none, 0, 0), false, (none, 0, 0), 0)) (w := w) ⟨(none, 0, 0), rfl, Own.nil _ _ _, by simp [blkOf], by simp, Fr.refl _ _⟩
  rcases g3 with ⟨rfl, h1, h2, h3⟩ | ⟨rfl, h1, h2, h3⟩
  · refine ⟨t.2.2.1, w', true, g20_call ?_, by simpa using h1, fun _ => h2, g2, h3⟩
    unfold g20
    simp only [g20_l2_x0_of g1, g20_l2_x0, Option.bind_some, asP_pointer, asB_bool, asI_int, asS_string, asSl_slice, asM_map, asTup0, asTup1, asTup2, asTup3, asTup4, asTup5, getD0, getD1, getD2, getD3, getD4, Bool.not_true, Bool.not_false, Bool.false_eq_true, Bool.true_eq_false, ↓reduceIte, decide_true, decide_false, Option.isNone_some, Option.isNone_none, Option.isSome_some, Option.isSome_none, beq_self_eq_true, bne_self_eq_false, Bool.and_true, Bool.true_and, Bool.and_false, Bool.false_and, not_true_eq_false, not_false_eq_true]
  · refine ⟨(none, 0, 0), w', false, g20_call ?_, by simpa using h3, fun h => by simp at h, g2, by simp [blkOf]⟩
    unfold g20
    simp only [g20_l2_ret_of g1, g20_l2_ret, h1, h2, Option.bind_some, asP_pointer, asB_bool, asI_int, asS_string, asSl_slice, asM_map, asTup0, asTup1, asTup2, asTup3, asTup4, asTup5, getD0, getD1, getD2, getD3, getD4, Bool.not_true, Bool.not_false, Bool.false_eq_true, Bool.true_eq_false, ↓reduceIte, decide_true, decide_false, Option.isNone_some, Option.isNone_none, Option.isSome_some, Option.isSome_none, beq_self_eq_true, bne_self_eq_false, Bool.and_true, Bool.true_and, Bool.and_false, Bool.false_and, not_true_eq_false, not_false_eq_true]
end
end Go.Proofs.Yteekaakkaogpeaa
