/-
  WalFrameN: lemmas on what Go functions of this seat come to (for whatever arguments, as each says). No condition but those that stand in each lemma.
-/
import Derived.Test.YtnflklkjjjlpaaaWalFrameM
import Derived.Test.YtnflklkjjjlpaaaWalFrameI
namespace Go.Proofs.Ytnflklkjjjlpaaa
open Go Go.Ev Go.Crc
set_option maxRecDepth 100000
set_option linter.unusedVariables false
set_option linter.unusedSimpArgs false

theorem dec_bad {bs : List Int} (h : ¬ (dec bs).2.2 = 0) : (dec bs).1 = [] ∧ (dec bs).2.1 = 0 := by
  unfold dec at *
  grind
theorem dec_le (bs : List Int) : (dec bs).1.length ≤ bs.length := by
  by_cases hk : (dec bs).2.2 = 0
  · have := dec_ok hk; omega
  · rw [(dec_bad hk).1]; simp

/-- a copy of what came in, by append to an empty slice -/
theorem copyE {w : World} {u : Option Addr × Nat × Nat} {bs : List Int} (hu : Sl8 w u bs) (hl : bs.length ≤ 1073741824) (cs : Array Bool) :
    ∃ q w', callB Try.prog .append #[31, 31] 31 cs #[.slice (some ⟨w.heap.size, 0, none⟩) 0 0, .slice u.1 u.2.1 u.2.2] (w.alloc (.cells #[] 5)) = some (.slice q.1 q.2.1 q.2.2, w') ∧
      Own w' 5 1 q (bs.map (Value.int .u8)) ∧ Fr [] w w' ∧ ∀ y ∈ blkOf q, w.heap.size ≤ y := by
  have o4 := own_new (w := w) (bs := []) (Nat.zero_le _)
  have f4 : Fr [] w (w.alloc (.cells #[] 5)) := Fr.alloc _
  change Own (w.alloc (.cells #[] 5)) 5 1 (some ⟨w.heap.size, 0, none⟩, 0, 0) (([] : List Int).map (Value.int .u8)) at o4
  have hsz : (w.alloc (.cells #[] 5)).heap.size = w.heap.size + 1 := Array.size_push _
  obtain ⟨q, w5, e5, o5, f5, h10⟩ := app8 o4 (hu.fr2 f4 (by simp)) (by simp; omega) cs
  refine ⟨q, w5, e5, o5, (Fr.mono (Fr.app f4 f5) (by have z0_ := Fr.size f4; have z1_ := Fr.size f5; intro y_ hy_ hl_; grind [blkOf])), ?_⟩
  intro y hy
  rcases h10 with h | h
  · simp only [blkOf] at hy; rw [h] at hy; simp at hy; omega
  · rw [h] at hy; simp at hy; omega

end Go.Proofs.Ytnflklkjjjlpaaa

namespace Go.Proofs.Ytnflklkjjjlpaaa
open Go Go.Ev Go.Crc
set_option maxRecDepth 100000
set_option linter.unusedVariables false
set_option linter.unusedSimpArgs false

theorem scan_len (bs : List Int) : 8 * (scan bs).1.length ≤ bs.length ∧ ∀ p ∈ (scan bs).1, p.length ≤ bs.length := by
  suffices H : ∀ n (bs : List Int), bs.length ≤ n → 8 * (scan bs).1.length ≤ bs.length ∧ ∀ p ∈ (scan bs).1, p.length ≤ bs.length from H _ bs (Nat.le_refl _)
  intro n
  induction n with
  | zero => intro bs h; rw [scan_nil (by omega)]; simp
  | succ n ih =>
    intro bs h
    by_cases h0 : bs.length = 0
    · rw [scan_nil h0]; simp
    · by_cases hk : (dec bs).2.2 = 0
      · have hd := dec_ok hk
        have hl : (bs.drop (dec bs).2.1).length = bs.length - (dec bs).2.1 := List.length_drop
        obtain ⟨i1, i2⟩ := ih (bs.drop (dec bs).2.1) (by omega)
        rw [scan_ok h0 hk]
        refine ⟨by simp only [List.length_cons]; omega, fun p hp => ?_⟩
        simp only [List.mem_cons] at hp
        rcases hp with rfl | hp
        · exact dec_le bs
        · have := i2 p hp; omega
      · rw [scan_bad h0 hk]; simp

end Go.Proofs.Ytnflklkjjjlpaaa

namespace Go.Proofs.Ytnflklkjjjlpaaa
open Go Go.Ev Go.Crc
set_option maxRecDepth 100000
set_option linter.unusedVariables false
set_option linter.unusedSimpArgs false

def encR (p : List Int) : List Int × Int := if p.length ≤ 4096 then (enc p, 0) else ([], 2)

theorem encodeR {w : World} {fb tb : Nat} {u : Option Addr × Nat × Nat} {p : List Int} (h : Fm w fb tb) (hu : Sl8 w u p) (hz : Zs p) (hd : 0 < p.length → tb ∉ blkOf u) :
    ∃ v' w', callF Try.prog 35 #[.pointer (some ⟨fb, 0, none⟩), .slice u.1 u.2.1 u.2.2] w = some (.tuple #[.slice v'.1 v'.2.1 v'.2.2, .int .i64 (encR p).2], w') ∧
      Own w' 5 1 v' ((encR p).1.map (Value.int .u8)) ∧ Fm w' fb tb ∧ Fr [tb] w w' ∧ (∀ y ∈ blkOf v', w.heap.size ≤ y) := by
  by_cases hl : p.length ≤ 4096
  · have : encR p = (enc p, 0) := by unfold encR; rw [if_pos hl]
    rw [this]; exact encode13 h hu hz hd hl
  · have : encR p = ([], 2) := by unfold encR; rw [if_neg hl]
    rw [this]
    refine ⟨(none, 0, 0), w, g35_call ?_, Own.nil _ _ _, h, Fr.refl _ _, by simp [blkOf]⟩
    have hc : (u.2.1 : Int) > 4096 := by have := hu.1; omega
    unfold g35
    simp only [hc, Option.bind_some, asP_pointer, asB_bool, asI_int, asS_string, asSl_slice, asM_map, asTup0, asTup1, asTup2, asTup3, asTup4, asTup5, getD0, getD1, getD2, getD3, getD4, Bool.not_true, Bool.not_false, Bool.false_eq_true, Bool.true_eq_false, ↓reduceIte, decide_true, decide_false, Option.isNone_some, Option.isNone_none, Option.isSome_some, Option.isSome_none, beq_self_eq_true, bne_self_eq_false, Bool.and_true, Bool.true_and, Bool.and_false, Bool.false_and, not_true_eq_false, not_false_eq_true]

theorem docencR {w : World} {u : Option Addr × Nat × Nat} {p : List Int} (hu : Sl8 w u p) (hz : Zs p) :
    ∃ v' w', callF Try.prog 13 #[.slice u.1 u.2.1 u.2.2] w = some (.tuple #[.slice v'.1 v'.2.1 v'.2.2, .int .i64 (encR p).2], w') ∧ Own w' 5 1 v' ((encR p).1.map (Value.int .u8)) ∧ Fr [] w w' ∧ (∀ y ∈ blkOf v', w.heap.size ≤ y) := by
  by_cases hl : p.length ≤ 4096
  · have : encR p = (enc p, 0) := by unfold encR; rw [if_pos hl]
    rw [this]; exact docenc11 hu hz hl
  · have : encR p = ([], 2) := by unfold encR; rw [if_neg hl]
    rw [this]
    refine ⟨(none, 0, 0), w, g13_call ?_, Own.nil _ _ _, Fr.refl _ _, by simp [blkOf]⟩
    have hc : (u.2.1 : Int) > 4096 := by have := hu.1; omega
    unfold g13
    simp only [hc, Option.bind_some, asP_pointer, asB_bool, asI_int, asS_string, asSl_slice, asM_map, asTup0, asTup1, asTup2, asTup3, asTup4, asTup5, getD0, getD1, getD2, getD3, getD4, Bool.not_true, Bool.not_false, Bool.false_eq_true, Bool.true_eq_false, ↓reduceIte, decide_true, decide_false, Option.isNone_some, Option.isNone_none, Option.isSome_some, Option.isSome_none, beq_self_eq_true, bne_self_eq_false, Bool.and_true, Bool.true_and, Bool.and_false, Bool.false_and, not_true_eq_false, not_false_eq_true]

theorem encR_len (p : List Int) : (encR p).1.length ≤ 4104 := by
  unfold encR; split
  · rw [enc_length]; omega
  · simp

end Go.Proofs.Ytnflklkjjjlpaaa

namespace Go.Proofs.Ytnflklkjjjlpaaa
open Go Go.Ev Go.Crc
set_option maxRecDepth 100000
set_option linter.unusedVariables false
set_option linter.unusedSimpArgs false

theorem un4_le4 {n : Int} (h : 0 ≤ n ∧ n < 4294967296) : un4 (n % 256) (n / 256 % 256) (n / 65536 % 256) (n / 16777216 % 256) = n := by
  unfold un4; omega

theorem dec_enc {p rest : List Int} (hl : p.length ≤ 4096) : dec (enc p ++ rest) = (p, 8 + p.length, 0) := by
  have hm := more_range 0 p
  have hlen : (enc p ++ rest).length = 8 + p.length + rest.length := by rw [List.length_append, enc_length]
  have e : enc p ++ rest = le4 (p.length : Int) ++ (le4 (more 0 p) ++ (p ++ rest)) := by simp [enc]
  have g : ∀ i, i < 4 → (enc p ++ rest).getD i 0 = (le4 (p.length : Int)).getD i 0 := by
    intro i hi; rw [e]; match i, hi with | 0, _ | 1, _ | 2, _ | 3, _ => rfl
  have g' : ∀ i, i < 4 → (enc p ++ rest).getD (4 + i) 0 = (le4 (more 0 p)).getD i 0 := by
    intro i hi; rw [e]; match i, hi with | 0, _ | 1, _ | 2, _ | 3, _ => rfl
  have h1 : un4 ((enc p ++ rest).getD 0 0) ((enc p ++ rest).getD 1 0) ((enc p ++ rest).getD 2 0) ((enc p ++ rest).getD 3 0) = (p.length : Int) := by
    rw [g 0 (by omega), g 1 (by omega), g 2 (by omega), g 3 (by omega)]
    exact un4_le4 (by omega)
  have h2 : un4 ((enc p ++ rest).getD 4 0) ((enc p ++ rest).getD 5 0) ((enc p ++ rest).getD 6 0) ((enc p ++ rest).getD 7 0) = more 0 p := by
    have a := g' 0 (by omega); have b := g' 1 (by omega); have c := g' 2 (by omega); have d := g' 3 (by omega)
    rw [show (4 : Nat) + 0 = 4 from rfl] at a; rw [show (4 : Nat) + 1 = 5 from rfl] at b; rw [show (4 : Nat) + 2 = 6 from rfl] at c; rw [show (4 : Nat) + 3 = 7 from rfl] at d
    rw [a, b, c, d]
    exact un4_le4 hm
  have h3 : ((enc p ++ rest).drop 8).take p.length = p := by
    have : (enc p ++ rest).drop 8 = p ++ rest := by rw [e]; simp [le4]
    rw [this, List.take_left]
  unfold dec
  rw [if_neg (by omega)]
  simp only [h1, h2]
  rw [if_neg (by omega), if_neg (by omega), Int.toNat_natCast, h3, if_pos rfl]

/-- frames, one behind the other -/
def encs (ps : List (List Int)) : List Int := (ps.map enc).flatten

theorem encs_cons (p : List Int) (ps : List (List Int)) : encs (p :: ps) = enc p ++ encs ps := rfl
theorem encs_append (a b : List (List Int)) : encs (a ++ b) = encs a ++ encs b := by simp [encs]
theorem encs_one (p : List Int) : encs [p] = enc p := by simp [encs]

theorem scan_encs {ps : List (List Int)} {rest : List Int} (hl : ∀ p ∈ ps, p.length ≤ 4096) : scan (encs ps ++ rest) = (ps ++ (scan rest).1, (encs ps).length + (scan rest).2.1, (scan rest).2.2) := by
  induction ps with
  | nil => simp [encs]
  | cons p ps ih =>
    have ih := ih fun q hq => hl q (by simp [hq])
    have hp := hl p (by simp)
    have hd := dec_enc (p := p) (rest := encs ps ++ rest) hp
    rw [encs_cons, List.append_assoc]
    have hk : (dec (enc p ++ (encs ps ++ rest))).2.2 = 0 := by rw [hd]
    have h0 : ¬ (enc p ++ (encs ps ++ rest)).length = 0 := by rw [List.length_append, enc_length]; omega
    rw [scan_ok h0 hk, hd]
    simp only
    have hdr : (enc p ++ (encs ps ++ rest)).drop (8 + p.length) = encs ps ++ rest := by
      rw [← enc_length p, List.drop_left]
    rw [hdr, ih, List.length_append, enc_length]
    simp [Nat.add_assoc]

theorem encs_length (ps : List (List Int)) : (encs ps).length = (ps.map fun p => 8 + p.length).sum := by
  induction ps with
  | nil => rfl
  | cons p ps ih => rw [encs_cons, List.length_append, enc_length, ih]; simp

theorem encs_zs {ps : List (List Int)} (h : ∀ p ∈ ps, Zs p) : Zs (encs ps) := by
  intro z hz
  simp only [encs, List.mem_flatten, List.mem_map] at hz
  obtain ⟨l, ⟨p, hp, rfl⟩, hz⟩ := hz
  exact enc_zs (h p hp) z hz

theorem sum_bulk (ps : List (List Int)) : (ps.map fun p => 8 + p.length).sum ≤ 8 * (ps.map fun p => p.length + 1).sum := by
  induction ps with
  | nil => simp
  | cons p ps ih => simp only [List.map_cons, List.sum_cons]; omega

theorem encs_take_le (ps : List (List Int)) (k : Nat) : (encs (ps.take k)).length ≤ (encs ps).length := by
  have := encs_append (ps.take k) (ps.drop k)
  rw [List.take_append_drop] at this
  rw [this]; simp

section
variable {w : World}

end
end Go.Proofs.Ytnflklkjjjlpaaa
