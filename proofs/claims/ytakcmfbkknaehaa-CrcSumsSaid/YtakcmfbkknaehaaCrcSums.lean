/-
  CrcSums: lemmas on what Go functions of this seat come to (for whatever arguments, as each says). No condition but those that stand in each lemma.
-/
import Derived.Test.YtakcmfbkknaehaaRs
import Derived.Test.YtakcmfbkknaehaaCrcG
namespace Go.Proofs.Ytakcmfbkknaehaa
open Go Go.Ev Go.Crc
set_option maxRecDepth 100000
set_option linter.unusedVariables false
set_option linter.unusedSimpArgs false

theorem ztab : (#[.int .u32 0, .int .i32 0, .int .u32 0, .int .u32 0, .int .u32 0, .int .u32 0, .int .u32 0, .int .u32 0, .int .u32 0, .int .u32 0, .int .u32 0, .int .u32 0, .int .u32 0, .int .u32 0, .int .u32 0, .int .u32 0, .int .u32 0, .int .u32 0, .int .u32 0, .int .u32 0, .int .u32 0, .int .u32 0, .int .u32 0, .int .u32 0, .int .u32 0, .int .u32 0, .int .u32 0, .int .u32 0, .int .u32 0, .int .u32 0, .int .u32 0, .int .u32 0, .int .u32 0, .int .u32 0, .int .u32 0, .int .u32 0, .int .u32 0, .int .u32 0, .int .u32 0, .int .u32 0, .int .u32 0, .int .u32 0, .int .u32 0, .int .u32 0, .int .u32 0, .int .u32 0, .int .u32 0, .int .u32 0, .int .u32 0, .int .u32 0, .int .u32 0, .int .u32 0, .int .u32 0, .int .u32 0, .int .u32 0, .int .u32 0, .int .u32 0, .int .u32 0, .int .u32 0, .int .u32 0, .int .u32 0, .int .u32 0, .int .u32 0, .int .u32 0, .int .u32 0, .int .u32 0, .int .u32 0, .int .u32 0, .int .u32 0, .int .u32 0, .int .u32 0, .int .u32 0, .int .u32 0, .int .u32 0, .int .u32 0, .int .u32 0, .int .u32 0, .int .u32 0, .int .u32 0, .int .u32 0, .int .u32 0, .int .u32 0, .int .u32 0, .int .u32 0, .int .u32 0, .int .u32 0, .int .u32 0, .int .u32 0, .int .u32 0, .int .u32 0, .int .u32 0, .int .u32 0, .int .u32 0, .int .u32 0, .int .u32 0, .int .u32 0, .int .u32 0, .int .u32 0, .int .u32 0, .int .u32 0, .int .u32 0, .int .u32 0, .int .u32 0, .int .u32 0, .int .u32 0, .int .u32 0, .int .u32 0, .int .u32 0, .int .u32 0, .int .u32 0, .int .u32 0, .int .u32 0, .int .u32 0, .int .u32 0, .int .u32 0, .int .u32 0, .int .u32 0, .int .u32 0, .int .u32 0, .int .u32 0, .int .u32 0, .int .u32 0, .int .u32 0, .int .u32 0, .int .u32 0, .int .u32 0, .int .u32 0, .int .u32 0, .int .u32 0, .int .u32 0, .int .u32 0, .int .u32 0, .int .u32 0, .int .u32 0, .int .u32 0, .int .u32 0, .int .u32 0, .int .u32 0, .int .u32 0, .int .u32 0, .int .u32 0, .int .u32 0, .int .u32 0, .int .u32 0, .int .u32 0, .int .u32 0, .int .u32 0, .int .u32 0, .int .u32 0, .int .u32 0, .int .u32 0, .int .u32 0, .int .u32 0, .int .u32 0, .int .u32 0, .int .u32 0, .int .u32 0, .int .u32 0, .int .u32 0, .int .u32 0, .int .u32 0, .int .u32 0, .int .u32 0, .int .u32 0, .int .u32 0, .int .u32 0, .int .u32 0, .int .u32 0, .int .u32 0, .int .u32 0, .int .u32 0, .int .u32 0, .int .u32 0, .int .u32 0, .int .u32 0, .int .u32 0, .int .u32 0, .int .u32 0, .int .u32 0, .int .u32 0, .int .u32 0, .int .u32 0, .int .u32 0, .int .u32 0, .int .u32 0, .int .u32 0, .int .u32 0, .int .u32 0, .int .u32 0, .int .u32 0, .int .u32 0, .int .u32 0, .int .u32 0, .int .u32 0, .int .u32 0, .int .u32 0, .int .u32 0, .int .u32 0, .int .u32 0, .int .u32 0, .int .u32 0, .int .u32 0, .int .u32 0, .int .u32 0, .int .u32 0, .int .u32 0, .int .u32 0, .int .u32 0, .int .u32 0, .int .u32 0, .int .u32 0, .int .u32 0, .int .u32 0, .int .u32 0, .int .u32 0, .int .u32 0, .int .u32 0, .int .u32 0, .int .u32 0, .int .u32 0, .int .u32 0, .int .u32 0, .int .u32 0, .int .u32 0, .int .u32 0, .int .u32 0, .int .u32 0, .int .u32 0, .int .u32 0, .int .u32 0, .int .u32 0, .int .u32 0, .int .u32 0, .int .u32 0, .int .u32 0, .int .u32 0, .int .u32 0, .int .u32 0, .int .u32 0, .int .u32 0, .int .u32 0, .int .u32 0, .int .u32 0, .int .u32 0, .int .u32 0, .int .u32 0, .int .u32 0, .int .u32 0, .int .u32 0, .int .u32 0, .int .u32 0, .int .u32 0, .int .u32 0, .int .u32 0, .int .u32 0, .int .u32 0, .int .u32 0, .int .u32 0, .int .u32 0] : Array Value) = (hd 0 0 0 ++ tl 0).toArray := by kernel_rfl

structure SInv (w0 : World) (S : List Nat) (b1 b2 : Nat) (q : Option Addr × Nat × Nat) (zs : List Int) (k : Nat) (s : Bool × Int) (w : World) : Prop where
  cnt : s = (false, (k : Int))
  t1 : Tbl w b1
  t2 : Tbl w b2
  rd : Sl8 w q zs
  fr : Fr S w0 w

theorem sums_round {w0 : World} {b1 b2 : Nat} {q : Option Addr × Nat × Nat} {zs : List Int} {s : Int} {r1 : Value × World} (hr1 : r1.2.heap.size = b2) (u1 : Option Addr × Nat × Nat)
    (hs : 0 ≤ s ∧ s < 4294967296) (hz : Zs zs) (hl : zs.length < 9223372036854775808) (hq1 : b1 ∉ blkOf q) (hq2 : b2 ∉ blkOf q) (hne : b1 ≠ b2)
    (k : Nat) (st : Bool × Int) (w : World) (hk : k < 2) (hi : SInv w0 [b1, b2] b1 b2 q zs k st w) :
    ∃ st' w', g3_l11_b (some ⟨b1, 0, none⟩) q (more 0 zs) s (more s zs) r1 u1 st w = some (.normal, st', w') ∧ SInv w0 [b1, b2] b1 b2 q zs (k + 1) st' w' := by
  obtain ⟨rfl, t1, t2, rd, fr⟩ := hi
  have sub1 : ∀ {x y : World}, Fr [b1] x y → Fr [b1, b2] x y := fun h => h.mono (by intro y hy _; simp at hy; simp [hy])
  have sub2 : ∀ {x y : World}, Fr [b2] x y → Fr [b1, b2] x y := fun h => h.mono (by intro y hy _; simp at hy; simp [hy])
  have rdf : ∀ {x y : World}, Fr [b1, b2] x y → Sl8 x q zs → Sl8 y q zs := fun hf h => h.fr2 hf (by intro y hy hm; simp at hm; rcases hm with rfl | rfl <;> contradiction)
  obtain ⟨w1, e1, d1, f1⟩ := sum13 t1 rd hz (fun _ => hq1) hl
  have rd1 := rdf (sub1 f1) rd
  obtain ⟨w2, e2, d2, f2⟩ := more14 (.inr d1) hs rd1 hz (fun _ => hq1) hl
  have rd2 := rdf (sub1 f2) rd1
  have t2' := (t2.fr f1 (by simp; omega)).fr f2 (by simp; omega)
  obtain ⟨w3, e3, d3, f3⟩ := sum13 t2' rd2 hz (fun _ => hq2) hl
  have rd3 := rdf (sub2 f3) rd2
  obtain ⟨w4, e4, d4, f4⟩ := more14 (.inr d3) hs rd3 hz (fun _ => hq2) hl
  have rd4 := rdf (sub2 f4) rd3
  have t1' : Tbl w4 b1 := (Tbl.fr (.inr d2) f3 (by simp; omega)).fr f4 (by simp; omega)
  refine ⟨(false, ((k + 1 : Nat) : Int)), w4, ?_, rfl, t1', .inr d4, rd4, (((fr.trans (sub1 f1)).trans (sub1 f2)).trans (sub2 f3)).trans (sub2 f4)⟩
  have hc : (k : Int) < 2 := by omega
  have hss := wrap_succ (n := k) (by omega)
  unfold g3_l11_b
  rw [hr1]
  simp only [hc, e1, e2, e3, e4, hss, Option.bind_some, asP_pointer, asB_bool, asI_int, asS_string, asSl_slice, asM_map, asTup0, asTup1, asTup2, asTup3, asTup4, asTup5, getD0, getD1, getD2, getD3, getD4, Bool.not_true, Bool.not_false, Bool.false_eq_true, Bool.true_eq_false, ↓reduceIte, decide_true, decide_false, Option.isNone_some, Option.isNone_none, Option.isSome_some, Option.isSome_none, beq_self_eq_true, bne_self_eq_false, Bool.and_true, Bool.true_and, Bool.and_false, Bool.false_and, not_true_eq_false, not_false_eq_true]

theorem CrcSums_main (W : World) (n0 : Int) (h0 : IntKind.u32.min ≤ n0 ∧ n0 ≤ IntKind.u32.max) (x1 : (Ty.slice (.int .u8)).Val) (h1 : (Ty.slice (.int .u8)).At W [.slice x1.1.1 x1.1.2.1 x1.1.2.2] x1)
    (hs1 : Ty.Fits (.slice (.int .u8)) x1) :
    ∃ w', callF Try.prog 3 #[.int .u32 n0, .slice x1.1.1 x1.1.2.1 x1.1.2.2] W = some (.bool true, w') ∧ Fr [] W w' := by
  replace h0 := u32_range h0
  have hlen : x1.2.length ≤ 140737488351232 := Fits.u8 hs1
  obtain ⟨hu, hz, hlt⟩ := slI_of_at h1
  replace hz := zs_of hz
  obtain ⟨w1, e1, t1, f1⟩ := new9 (w := W)
  have hb2 := Blk.new w1 (hd 0 0 0 ++ tl 0) 39
  have f2 : Fr [] w1 (w1.alloc (.cells (hd 0 0 0 ++ tl 0).toArray 39)) := Fr.alloc _
  have t1' := t1.fr f2 (by simp)
  have hW1 := t1.lt
  generalize hw2 : w1.alloc (.cells (hd 0 0 0 ++ tl 0).toArray 39) = w2 at hb2 f2 t1'
  obtain ⟨w3, e3, f3⟩ := awake10 (w := w2)
  have t1'' := t1'.fr f3 (by simp)
  have hb3 := hb2.fr f3 (by simp)
  have f13 := (f1.trans f2).trans f3
  have hu3 := hu.fr2 f13 (by simp)
  obtain ⟨q, w4, e4, o4, hq, hlt4, f4⟩ := own11 hu3 (by omega)
  have hu4 := hu3.fr2 f4 (by simp)
  have f14 := f13.trans f4
  have e5 := ref12 (w := w4) (s := 0) (by decide) hu4 hz (by omega)
  have e6 := ref12 (w := w4) h0 hu4 hz (by omega)
  have hl1 : w1.heap.size < w3.heap.size := hb3.lt
  obtain ⟨t, w5, e7, i7⟩ := loopS_count (b := g3_l11_b (some ⟨W.heap.size, 0, none⟩) q (more 0 x1.2) n0 (more n0 x1.2) (Value.pointer (some ⟨W.heap.size, 0, none⟩), w1) x1.1)
    (I := SInv w4 [W.heap.size, w1.heap.size] W.heap.size w1.heap.size q x1.2) (n := 2)
    (fun k st w hk hi => sums_round (b1 := W.heap.size) (b2 := w1.heap.size) rfl x1.1 h0 hz (by omega) (by rw [hq]; simp; omega) (by rw [hq]; simp; omega) (by omega) k st w hk hi)
    (fun st w hi => by
      obtain ⟨rfl, _, _, _, _⟩ := hi
      have hc : ¬ ((2 : Nat) : Int) < 2 := by decide
      unfold g3_l11_b
      simp only [hc, Option.bind_some, asP_pointer, asB_bool, asI_int, asS_string, asSl_slice, asM_map, asTup0, asTup1, asTup2, asTup3, asTup4, asTup5, getD0, getD1, getD2, getD3, getD4, Bool.not_true, Bool.not_false, Bool.false_eq_true, Bool.true_eq_false, ↓reduceIte, decide_true, decide_false, Option.isNone_some, Option.isNone_none, Option.isSome_some, Option.isSome_none, beq_self_eq_true, bne_self_eq_false, Bool.and_true, Bool.true_and, Bool.and_false, Bool.false_and, not_true_eq_false, not_false_eq_true])
    (Nat.zero_le _) (k := 0) (s := (false, 0)) (w := w4) ⟨rfl, t1''.fr f4 (by simp), .inl (hb3.fr f4 (by simp)), o4.slI, Fr.refl _ _⟩
  have f15 : Fr [] W w5 := (f14.nil.trans i7.fr).mono (by intro y hy hlt; simp at hy; omega)
  have hu5 := hu.fr2 f15 (by simp)
  obtain ⟨t2, w6, e8, i8⟩ := loopS_countX 2 (b := g3_l27_b x1.1 q) (I := fun k st w => st = (false, (k : Int)) ∧ Sl8 w x1.1 x1.2 ∧ Sl8 w q x1.2 ∧ Fr [] W w) (n := x1.2.length)
    (fun k st w hk ⟨hs, ha, hb, hf⟩ => by
      subst hs
      refine ⟨(false, ((k + 1 : Nat) : Int)), w.drew, ?_, rfl, ha, hb, hf.trans (Fr.drew _ _)⟩
      have hc : (k : Int) < (x1.1.2.1 : Int) := by have := ha.1; omega
      have hss := wrap_succ (n := k) (by omega)
      obtain ⟨a1, g1, g2⟩ := hb.get hk
      obtain ⟨a2, g3, g4⟩ := ha.get hk
      have g2' : w.drew.cell? a1 = some (.int .u8 x1.2[k]) := g2
      have g4' : w.drew.cell? a2 = some (.int .u8 x1.2[k]) := g4
      unfold g3_l27_b
      simp only [hc, g1, g2', g3, g4', hss, Option.bind_some, asP_pointer, asB_bool, asI_int, asS_string, asSl_slice, asM_map, asTup0, asTup1, asTup2, asTup3, asTup4, asTup5, getD0, getD1, getD2, getD3, getD4, Bool.not_true, Bool.not_false, Bool.false_eq_true, Bool.true_eq_false, ↓reduceIte, decide_true, decide_false, Option.isNone_some, Option.isNone_none, Option.isSome_some, Option.isSome_none, beq_self_eq_true, bne_self_eq_false, Bool.and_true, Bool.true_and, Bool.and_false, Bool.false_and, not_true_eq_false, not_false_eq_true])
    (fun st w ⟨hs, ha, hb, hf⟩ => by
      subst hs
      have hc : ¬ ((x1.2.length : Nat) : Int) < (x1.1.2.1 : Int) := by have := ha.1; omega
      unfold g3_l27_b
      simp only [hc, Option.bind_some, asP_pointer, asB_bool, asI_int, asS_string, asSl_slice, asM_map, asTup0, asTup1, asTup2, asTup3, asTup4, asTup5, getD0, getD1, getD2, getD3, getD4, Bool.not_true, Bool.not_false, Bool.false_eq_true, Bool.true_eq_false, ↓reduceIte, decide_true, decide_false, Option.isNone_some, Option.isNone_none, Option.isSome_some, Option.isSome_none, beq_self_eq_true, bne_self_eq_false, Bool.and_true, Bool.true_and, Bool.and_false, Bool.false_and, not_true_eq_false, not_false_eq_true])
    (Nat.zero_le _) (k := 0) (s := (false, 0)) (w := w5) ⟨rfl, hu5, i7.rd, f15⟩
  refine ⟨w6, g3_call ?_, i8.2.2.2⟩
  have ht : t.1 = false := by rw [i7.cnt]
  unfold g3
  rw [ztab]
  simp only [e1, hw2, e3, e4, e5, e6, g3_l11_x0_of e7, Option.bind_some, asP_pointer, asB_bool, asI_int, asS_string, asSl_slice, asM_map, asTup0, asTup1, asTup2, asTup3, asTup4, asTup5, getD0, getD1, getD2, getD3, getD4, Bool.not_true, Bool.not_false, Bool.false_eq_true, Bool.true_eq_false, ↓reduceIte, decide_true, decide_false, Option.isNone_some, Option.isNone_none, Option.isSome_some, Option.isSome_none, beq_self_eq_true, bne_self_eq_false, Bool.and_true, Bool.true_and, Bool.and_false, Bool.false_and, not_true_eq_false, not_false_eq_true]
  unfold g3_l11_x0
  rw [ht, g3_l27_x2_of e8]
  rfl
end Go.Proofs.Ytakcmfbkknaehaa
