/-
  ImageMoves: lemmas on what Go functions of this seat come to (for whatever arguments, as each says). No condition but those that stand in each lemma.
-/
import Derived.Test.YtjcenfgmpbeldaaImageMo
namespace Go.Proofs.Ytjcenfgmpbeldaa
open Go Go.Ev
set_option maxRecDepth 100000
set_option linter.unusedVariables false
set_option linter.unusedSimpArgs false

/-- what becomes of a move when all that are named are in sync -/
theorem settle_all {ns : List NV} {v : PV} {L : List Int} (hL : L ≠ []) (ht : v.tgt = L) (hall : ∀ n ∈ L, n ∈ v.isr) :
    (settleV ns v).rep = L ∧ (settleV ns v).isr = L ∧ (settleV ns v).tgt = [] ∧ (settleV ns v).ep = (if v.ld ∈ L then v.ep else IntKind.i64.wrap (v.ep + 1)) := by
  subst ht
  unfold settleV
  rw [if_neg hL, if_pos hall]
  by_cases h : v.ld ∈ v.tgt
  · rw [if_pos h, if_pos h]; exact ⟨rfl, rfl, rfl, rfl⟩
  · rw [if_neg h, if_neg h]; exact ⟨rfl, rfl, rfl, rfl⟩
theorem settle_not {ns : List NV} {v : PV} (hall : ¬ ∀ n ∈ v.tgt, n ∈ v.isr) : settleV ns v = v := by
  unfold settleV
  by_cases h : v.tgt = []
  · rw [if_pos h]
  · rw [if_neg h, if_neg hall]

theorem img_part2 {w : World} {D : Nat → Prop} {b : Nat} {m : IM} (h : Img w D b m) {k : Nat} (hk : k < m.vs.length) :
    ∃ qi qr qt w', callF Try.prog 15 #[.pointer (some ⟨b, 0, none⟩), .int .i64 (k : Int)] w = some (.tuple #[m.vs[k].arg qi qr qt, .bool true], w') ∧ Fr [] w w' ∧ Own w' 3 1 qi (intsV' m.vs[k].isr) ∧ Own w' 3 1 qr (intsV' m.vs[k].rep) ∧ Own w' 3 1 qt (intsV' m.vs[k].tgt) ∧ (∀ y, y ∈ blkOf qi ∨ y ∈ blkOf qr ∨ y ∈ blkOf qt → w.heap.size ≤ y) := by
  obtain ⟨c, nq, pq, es, h, hv⟩ := h
  have hk' : k < es.length := by rw [← hv] at hk; simpa using hk
  have hev : m.vs[k] = es[k].v := by simp [← hv]
  obtain ⟨qi, qr, qt, w', e, f, o1, o2, o3, n, _⟩ := part15 h hk'
  rw [hev]
  exact ⟨qi, qr, qt, w', e, f, o1, o2, o3, n⟩

theorem moves_tail {w : World} {D : Nat → Prop} {b k : Nat} {m : IM} {t : Int} {r70 : Value × World} {tl : Sh × Int} {L : List Int} {qi qr qt : Sh} {u1 : Int} (hI : Img w D b m) (hM : MI t m) (ht : 0 ≤ t ∧ t < 5000000000000) (hn5 : m.ns.length = 5) (hkm : k < m.vs.length)
    (hu1 : IntKind.i64.wrap (Int.tmod u1 4) = (k : Int)) (hsL : sortedI 5 L) (htg : m.vs[k].tgt = L) (hld : 0 ≤ m.vs[k].ld)
    (hB : Blk w r70.2.heap.size (m.vs[k].cs qi qr qt) 30) (hoi : Own w 3 1 qi (intsV' m.vs[k].isr)) (hL : Own w 3 1 tl.1 (intsV' L)) (hrD : ¬ D r70.2.heap.size) (htD : ∀ y ∈ blkOf tl.1, ¬ D y) :
    ∃ e s w1, loopS (g4_l261_b (some ⟨b, 0, none⟩) tl r70 u1) (false, (none, 0, 0), 0) w = some (e, s, w1) ∧
      (e = .ret ∧ s.1 = true ∧ Fr [] w w1 ∨ e = .exit 6 ∧ ∃ w' D', g4_l261_x6 r70 (some ⟨b, 0, none⟩) u1 tl s w1 = some (.bool true, w') ∧ Chg D w w' D') := by
  have hVI := hM.vs _ (List.getElem_mem hkm)
  obtain ⟨v, hv⟩ : ∃ v, m.vs[k] = v := ⟨_, rfl⟩
  rw [hv] at htg hld hB hoi hVI
  have hll := sortedI_len hsL
  have hil := sortedI_len hVI.si
  have hn5' := hM.nlen
  obtain ⟨hLne, hLr, hLup⟩ := sortedI_iff.mp hsL
  obtain ⟨e, s, w1, g1, hF, hQ⟩ := both261 (u1 := u1) hI hn5 hL (by omega) hB (cs := v.cs qi qr qt) rfl hoi (by omega)
  refine ⟨e, s, w1, g1, ?_⟩
  rcases hQ with ⟨rfl, hs⟩ | ⟨rfl, hal, hbo, hbn⟩
  · exact .inl ⟨rfl, hs, hF⟩
  refine .inr ⟨rfl, ?_⟩
  have hI1 := hI.fr hF (by simp)
  have hB1 := hB.fr hF (by simp)
  have c0 : w1.cell? ⟨r70.2.heap.size, 0, none⟩ = some (.int .i64 v.ld) := hB1.cell 0
  have c1 : w1.cell? ⟨r70.2.heap.size, 1, none⟩ = some (.int .i64 v.ep) := hB1.cell 1
  have c2 : w1.cell? ⟨r70.2.heap.size, 2, none⟩ = some (.int .i64 v.vr) := hB1.cell 2
  have hzF := hF.size
  obtain ⟨BL, hBL⟩ : ∃ BL, pickL (bothP L v.isr) 5 = BL := ⟨_, rfl⟩
  have hmemB : ∀ n, n ∈ BL ↔ n ∈ L ∨ n ∈ v.isr := by
    intro n
    rw [← hBL, pickL_mem]
    unfold bothP
    simp only [Bool.or_eq_true, decide_eq_true_eq]
    constructor
    · exact fun h => h.2
    · intro h
      refine ⟨?_, h⟩
      rcases h with h | h
      · have := hLr n h; omega
      · have := hVI.names.1 n h; omega
  have hldm := (hVI.l1 hld).1
  have hBne : BL ≠ [] := List.ne_nil_of_mem ((hmemB v.ld).mpr (.inr hldm))
  have hBs : sortedI m.ns.length BL := by rw [hn5]; rw [← hBL] at hBne ⊢; exact pickL_sorted hBne
  have hBlen := sortedI_len hBs
  rw [hBL] at hbo
  let x : CV := ⟨3, v.ld, (k : Int), v.ep, v.vr, BL⟩
  obtain ⟨D2, w2, e2, hI2, C2⟩ := apply13 hI1 hM.ok x s.2.1 hbo.slI (fun hn => (hbo.empty hn).2.1) (by show BL.length ≤ _; omega) (fun _ y hy hd => by have := hbn y hy; have := hI.lt y hd; omega)
  have hisr : isrV m.ns x v = (settleV m.ns { v with isr := BL, vr := IntKind.i64.wrap (v.vr + 1) }, 0) := by
    unfold isrV
    have h1 : sortedI m.ns.length x.ls := hBs
    have h2 : ¬ (v.ld < 0 ∨ x.ep ≠ v.ep ∨ x.nd ≠ v.ld ∨ x.vr ≠ v.vr) := by
      rintro (h | h | h | h)
      · omega
      · exact h rfl
      · exact h rfl
      · exact h rfl
    have h3 : v.ld ∈ x.ls := (hmemB _).mpr (.inr hldm)
    have h4 : ¬ (x.ls.any (isrBad m.ns v) = true) := by
      intro hh
      obtain ⟨n, hn, hbad⟩ := List.any_eq_true.mp hh
      have hn' : n ∈ BL := hn
      unfold isrBad at hbad
      simp only [Bool.not_eq_true', Bool.and_eq_false_iff, Bool.or_eq_false_iff, decide_eq_false_iff_not] at hbad
      rcases (hmemB n).mp hn' with hm | hm
      · rcases hbad with ⟨_, h⟩ | ⟨h1, h2⟩
        · rw [htg] at h; exact h hm
        · rcases hal n hm (hLr n hm) with ha | ha
          · rw [ha] at h2; cases h2
          · exact h1 ha
      · rcases hbad with ⟨h1, h2⟩ | ⟨h1, _⟩
        · rcases hVI.sub n hm with hh | hh
          · exact h1 hh
          · exact h2 hh
        · exact h1 hm
    rw [if_neg (by simp [h1]), if_neg h2, if_neg (by simp [h3]), if_neg h4]
  have hap : applyI m x = ({ m with vs := m.vs.set k (settleV m.ns { v with isr := BL, vr := IntKind.i64.wrap (v.vr + 1) }), count := IntKind.i64.wrap (m.count + 1) }, 0) := by
    have k1 : ¬ (x.k = 1 ∨ x.k = 2 ∨ x.k = 5) := by show ¬ ((3 : Int) = 1 ∨ (3 : Int) = 2 ∨ (3 : Int) = 5); omega
    have k2 : x.k = 3 ∨ x.k = 4 := .inl rfl
    have k3 : ¬ (x.pt < 0 ∨ (m.vs.length : Int) ≤ x.pt) := by show ¬ ((k : Int) < 0 ∨ (m.vs.length : Int) ≤ (k : Int)); omega
    have k4 : x.pt.toNat = k := by show ((k : Int)).toNat = k; omega
    unfold applyI
    rw [if_neg k1, if_pos k2, if_neg k3, k4, getD_nat hkm, hv]
    have : partI m.ns x v = isrV m.ns x v := by unfold partI; rw [if_pos rfl]
    rw [this, hisr]
  rw [hap] at e2 hI2
  obtain ⟨vE, hvE⟩ : ∃ vE, settleV m.ns { v with isr := BL, vr := IntKind.i64.wrap (v.vr + 1) } = vE := ⟨_, rfl⟩
  obtain ⟨E1, E2, E3, E4⟩ := settle_all (ns := m.ns) (v := { v with isr := BL, vr := IntKind.i64.wrap (v.vr + 1) }) hLne htg (fun n hn => (hmemB n).mpr (.inl hn))
  rw [hvE] at E1 E2 E3 E4 hI2
  have hk2 : k < (m.vs.set k vE).length := by simpa using hkm
  obtain ⟨qi3, qr3, qt3, w3, e3, f3, oi3, or3, ot3⟩ := img_part hI2 hk2
  have hget : (m.vs.set k vE)[k] = vE := by simp
  rw [hget] at e3 oi3 or3 ot3
  obtain ⟨w4, s4, b4, f4, l4⟩ := newP w3 vE qi3 qr3 qt3
  obtain ⟨S, fS, hS⟩ := C2.fr
  have hBv2 := hB1.fr fS (fun hm => hrD (hS _ hm))
  have hL1 := hL.fr hF (by simp)
  have hL2 := hL1.fr fS (fun y hy hm => htD y hy (hS y hm))
  have fd := Fr.drew [] w4
  have F24 : Fr [] w2 w4.drew := (Fr.mono (Fr.app (Fr.app f3 f4) fd) (by have z0_ := Fr.size f3; have z1_ := Fr.size f4; have z2_ := Fr.size fd; intro y_ hy_ hl_; grind [blkOf]))
  have fd' : Fr [] w4 w4.drew := fd
  have b4d := b4.fr fd (by simp)
  have d4 : w4.drew.cell? ⟨w3.heap.size, 4, none⟩ = some (.slice qr3.1 qr3.2.1 qr3.2.2) := b4d.cell 4
  have hL4 := hL2.fr F24 (by simp)
  have fo : Fr [] w3 w4.drew := (Fr.mono (Fr.app f4 fd) (by have z0_ := Fr.size f4; have z1_ := Fr.size fd; intro y_ hy_ hl_; grind [blkOf]))
  have or4 := or3.fr fo (by simp)
  have oi4 := oi3.fr fo (by simp)
  have ot4 := ot3.fr fo (by simp)
  rw [E1] at or4
  rw [E2] at oi4
  rw [E3] at ot4
  obtain ⟨w5, e5, f5⟩ := sameInts19 or4.slI hL4.slI (by omega)
  have d3 : w5.cell? ⟨w3.heap.size, 3, none⟩ = some (.slice qi3.1 qi3.2.1 qi3.2.2) := (b4d.fr f5 (by simp)).cell 3
  obtain ⟨w6, e6, f6⟩ := sameInts19 (oi4.fr f5 (by simp)).slI (hL4.fr f5 (by simp)).slI (by omega)
  have F56 : Fr [] w4.drew w6 := (Fr.mono (Fr.app f5 f6) (by have z0_ := Fr.size f5; have z1_ := Fr.size f6; intro y_ hy_ hl_; grind [blkOf]))
  have b6 := b4d.fr F56 (by simp)
  have F26 : Fr [] w2 w6 := (Fr.mono (Fr.app F24 F56) (by have z0_ := Fr.size F24; have z1_ := Fr.size F56; intro y_ hy_ hl_; grind [blkOf]))
  have hB6 := hBv2.fr F26 (by simp)
  have d5 : w6.cell? ⟨w3.heap.size, 5, none⟩ = some (.slice qt3.1 qt3.2.1 qt3.2.2) := b6.cell 5
  have d1 : w6.cell? ⟨w3.heap.size, 1, none⟩ = some (.int .i64 vE.ep) := b6.cell 1
  have r0 : w6.cell? ⟨r70.2.heap.size, 0, none⟩ = some (.int .i64 v.ld) := hB6.cell 0
  have r1 : w6.cell? ⟨r70.2.heap.size, 1, none⟩ = some (.int .i64 v.ep) := hB6.cell 1
  have e7 := has17 (hL4.fr F56 (by simp)).slC (by omega) v.ld
  have hqt := ot4.len
  simp only [intsV', List.map_nil, List.length_nil, Nat.mul_one] at hqt
  have kq : ((qt3.2.1 : Int) == 0) = true := by simp; omega
  have kt : decide (L = L) = true := by simp
  have hwe := ep_wrap hVI.toVP (by omega)
  have kfin : (decide (v.ld ∈ L) == (vE.ep == v.ep)) = true := by
    rw [E4]
    show (decide (v.ld ∈ L) == ((if v.ld ∈ L then v.ep else IntKind.i64.wrap (v.ep + 1)) == v.ep)) = true
    by_cases h : v.ld ∈ L
    · simp [h]
    · rw [if_neg h, hwe]
      have : (v.ep + 1 == v.ep) = false := by simp; omega
      simp [h, this]
  have k00 : ((0 : Int) == 0) = true := rfl
  rw [kt] at e5 e6
  simp only [CV.arg, x] at e2
  simp only [PV.arg] at e3
  refine ⟨w6, D2, ?_, ?_⟩
  · unfold g4_l261_x6
    simp only [addr_add, Nat.zero_add, c0, c1, c2, hu1, e2, e3, s4, k00, d4, e5, g4_j339, d3, e6, g4_j351, d5, kq, g4_j362, r0, e7, d1, r1, g4_j383a, g4_j388a, g4_j399a, g4_j409a, g4_j416, kfin, ite_self, obs, asP_pointer, asB_bool, asI_int, asS_string, asSl_slice, asM_map, asTup0, asTup1, asTup2, asTup3, asTup4, asTup5, asTup6, asTup7, asTup8, asTup9, asAgg2, asAgg3, asAgg4, asAgg5, asAgg6, asAgg7, asAgg8, asAgg9, asAgg12, getD0, getD1, getD2, getD3, getD4, getD5, getD6, getD7, getD8, getD9, getD10, getD11, getD12, getD13, getD14, getD15, getD16, getD17, getD18, getD19, Bool.not_true, Bool.not_false, Bool.false_eq_true, Bool.true_eq_false, ↓reduceIte, decide_true, decide_false, Option.isNone_some, Option.isNone_none, Option.isSome_some, Option.isSome_none, beq_self_eq_true, bne_self_eq_false, Bool.and_true, Bool.true_and, Bool.and_false, Bool.false_and, not_true_eq_false, not_false_eq_true]
  · have C1 : Chg D w w2 D2 := chg_fr hF C2
    obtain ⟨S', g', hS'⟩ := C1.fr
    exact chgP (g'.app F26) (fun y hy _ => by simp at hy; exact hS' y hy) C1.up C1.new

theorem ImageMoves_main0 (W : World) (x0 : (Ty.slice CT).Val) (h0 : (Ty.slice CT).At W [.slice x0.1.1 x0.1.2.1 x0.1.2.2] x0) (n1 : Int) (h1 : IntKind.u8.min ≤ n1 ∧ n1 ≤ IntKind.u8.max) (x2 : (Ty.slice (.int .u8)).Val) (h2 : (Ty.slice (.int .u8)).At W [.slice x2.1.1 x2.1.2.1 x2.1.2.2] x2)
    (hb : Ty.Fits (.slice CT) x0) (hb2 : Ty.Fits (.slice (.int .u8)) x2) :
    ∃ w', callF Try.prog 4 #[.slice x0.1.1 x0.1.2.1 x0.1.2.2, .int .u8 n1, .slice x2.1.1 x2.1.2.1 x2.1.2.2] W = some (.bool true, w') ∧ Fr [] W w' := by
  have hn1 := u8_range h1
  obtain ⟨hsT, hrT, _⟩ := slI_of_at h2
  have hlT := Fits.u8 hb2
  obtain ⟨w1, e1, f1⟩ := awake12 W
  obtain ⟨D, b, m, w2, e2, hI2, hM, hn5, hv4, _, _, _, f2, hD⟩ := after18 W f1 x0 h0 hb
  have F2 : Fr [] W w2 := (Fr.mono (Fr.app f1 f2) (by have z0_ := Fr.size f1; have z1_ := Fr.size f2; intro y_ hy_ hl_; grind [blkOf]))
  obtain ⟨v3, w3, g3, o3, f3, n3⟩ := named5 (some ⟨b, 0, none⟩) n1 (hsT.fr3 F2 (by simp)) (fun z hz => by have := hrT z hz; exact this) (by omega)
  obtain ⟨L, hL⟩ : ∃ L, pickL (toP x2.2) 5 = L := ⟨_, rfl⟩
  have hLlen : L.length ≤ 5 := by rw [← hL]; exact pickL_len _ _
  have hLs : L ≠ [] → sortedI 5 L := by rw [← hL]; exact pickL_sorted
  rw [hL] at o3
  have hI3 := hI2.fr f3 (by simp)
  have q0 := Int.tmod_nonneg 4 hn1.1
  have q1 := Int.tmod_lt_of_pos n1 (show (0 : Int) < 4 by omega)
  obtain ⟨k, hk⟩ : ∃ k : Nat, IntKind.i64.wrap (Int.tmod n1 4) = (k : Int) := ⟨(Int.tmod n1 4).toNat, by rw [wrap_i64 (by omega) (by omega)]; omega⟩
  have hk4 : k < 4 := by rw [wrap_i64 (by omega) (by omega)] at hk; omega
  have hkm : k < m.vs.length := by omega
  obtain ⟨qi, qr, qt, w4, e4, f4, oi, or_, ot, nn⟩ := img_part2 hI3 hkm
  have hVI := hM.vs _ (List.getElem_mem hkm)
  obtain ⟨v, hv⟩ : ∃ v, m.vs[k] = v := ⟨_, rfl⟩
  rw [hv] at e4 oi or_ ot hVI
  obtain ⟨w5, s5, b5, f5, l5⟩ := newP w4 v qi qr qt
  have F35 : Fr [] w3 w5 := (Fr.mono (Fr.app f4 f5) (by have z0_ := Fr.size f4; have z1_ := Fr.size f5; intro y_ hy_ hl_; grind [blkOf]))
  have o5 := o3.fr F35 (by simp)
  obtain ⟨q6, w6, e6, o6, f6, n6⟩ := copyN2 o5.slI (by omega)
  have F36 : Fr [] w3 w6 := (Fr.mono (Fr.app F35 f6) (by have z0_ := Fr.size F35; have z1_ := Fr.size f6; intro y_ hy_ hl_; grind [blkOf]))
  have hI6 := hI3.fr F36 (by simp)
  let x : CV := ⟨4, 0, (k : Int), 0, 0, L⟩
  obtain ⟨D7, w7, e7, hI7, C7⟩ := apply13 hI6 hM.ok x q6 o6.slI (fun hn => (o6.empty hn).2.1) (by show L.length ≤ _; omega) (fun _ y hy hd => by have := n6 y hy; have := hI3.lt y hd; have := F35.size; omega)
  have hap : applyI m x = ({ m with vs := m.vs.set k (moveV m.ns x v).1, count := IntKind.i64.wrap (m.count + 1) }, (moveV m.ns x v).2) := by
    have k1 : ¬ (x.k = 1 ∨ x.k = 2 ∨ x.k = 5) := by show ¬ ((4 : Int) = 1 ∨ (4 : Int) = 2 ∨ (4 : Int) = 5); omega
    have k2 : x.k = 3 ∨ x.k = 4 := .inr rfl
    have k3 : ¬ (x.pt < 0 ∨ (m.vs.length : Int) ≤ x.pt) := by show ¬ ((k : Int) < 0 ∨ (m.vs.length : Int) ≤ (k : Int)); omega
    have k4 : x.pt.toNat = k := by show ((k : Int)).toNat = k; omega
    unfold applyI
    rw [if_neg k1, if_pos k2, if_neg k3, k4, getD_nat hkm, hv]
    have : partI m.ns x v = moveV m.ns x v := by unfold partI; rw [if_neg (by show ¬ (4 : Int) = 3; omega)]
    rw [this]
  rw [hap] at e7 hI7
  have hq3 := o3.len
  simp only [intsV', List.length_map, Nat.mul_one] at hq3
  have hqt := ot.len
  simp only [intsV', List.length_map, Nat.mul_one] at hqt
  obtain ⟨S7, fS7, hS7⟩ := C7.fr
  have F6 : Fr [] W w6 := (Fr.mono (Fr.app (Fr.app F2 f3) F36) (by have z0_ := Fr.size F2; have z1_ := Fr.size f3; have z2_ := Fr.size F36; intro y_ hy_ hl_; grind [blkOf]))
  have F7 : Fr [] W w7 := (F6.app fS7).mono (by
    intro y hy hlt
    simp at hy
    have := hD y (hS7 y hy); have := f1.size; omega)
  have hDW : ∀ y, D y → W.heap.size ≤ y := fun y hy => by have := hD y hy; have := f1.size; omega
  have hD7W : ∀ y, D7 y → W.heap.size ≤ y := fun y hy => by
    rcases C7.new y hy with hh | hh
    · exact hDW y hh
    · have := F6.size; omega
  have b6 := b5.fr f6 (by simp)
  have hnD4 : ¬ D w4.heap.size := fun hd => by have := hI3.lt _ hd; have := f4.size; omega
  have b7 := b6.fr fS7 (fun hm => hnD4 (hS7 _ hm))
  have d5 : w7.cell? ⟨w4.heap.size, 5, none⟩ = some (.slice qt.1 qt.2.1 qt.2.2) := b7.cell 5
  have n11 : ((1 : Int) == 1) = true := rfl
  have n1616 : ((16 : Int) == 16) = true := rfl
  have n00 : ((0 : Int) != 0) = false := rfl
  simp only [PV.arg] at e4
  simp only [CV.arg, x] at e7
  -- from the loop that names on
  have beg : ∀ r, g4_l5_x0 (some ⟨b, 0, none⟩) n1 (v3, 5) w3 = some r → callF Try.prog 4 #[.slice x0.1.1 x0.1.2.1 x0.1.2.2, .int .u8 n1, .slice x2.1.1 x2.1.2.1 x2.1.2.2] W = some r := by
    intro r hr
    refine g4_call ?_
    unfold g4
    simp only [e1, e2, obs, asP_pointer, asB_bool, asI_int, asS_string, asSl_slice, asM_map, asTup0, asTup1, asTup2, asTup3, asTup4, asTup5, asTup6, asTup7, asTup8, asTup9, asAgg2, asAgg3, asAgg4, asAgg5, asAgg6, asAgg7, asAgg8, asAgg9, asAgg12, getD0, getD1, getD2, getD3, getD4, getD5, getD6, getD7, getD8, getD9, getD10, getD11, getD12, getD13, getD14, getD15, getD16, getD17, getD18, getD19, Bool.not_true, Bool.not_false, Bool.false_eq_true, Bool.true_eq_false, ↓reduceIte, decide_true, decide_false, Option.isNone_some, Option.isNone_none, Option.isSome_some, Option.isSome_none, beq_self_eq_true, bne_self_eq_false, Bool.and_true, Bool.true_and, Bool.and_false, Bool.false_and, not_true_eq_false, not_false_eq_true]
    rw [g4_l5_x0_of g3]
    exact hr
  by_cases hLe : L = []
  · have kL : ((v3.2.1 : Int) == 0) = true := by rw [hLe] at hq3; simp at hq3 ⊢; omega
    have hmv : moveV m.ns x v = (v, 1) := by unfold moveV; rw [if_pos (by intro hh; exact hh.1 hLe)]
    rw [hmv] at e7
    refine ⟨w7, beg _ ?_, F7⟩
    unfold g4_l5_x0
    simp only [hk, e4, s5, e6, e7, kL, n11, obs, asP_pointer, asB_bool, asI_int, asS_string, asSl_slice, asM_map, asTup0, asTup1, asTup2, asTup3, asTup4, asTup5, asTup6, asTup7, asTup8, asTup9, asAgg2, asAgg3, asAgg4, asAgg5, asAgg6, asAgg7, asAgg8, asAgg9, asAgg12, getD0, getD1, getD2, getD3, getD4, getD5, getD6, getD7, getD8, getD9, getD10, getD11, getD12, getD13, getD14, getD15, getD16, getD17, getD18, getD19, Bool.not_true, Bool.not_false, Bool.false_eq_true, Bool.true_eq_false, ↓reduceIte, decide_true, decide_false, Option.isNone_some, Option.isNone_none, Option.isSome_some, Option.isSome_none, beq_self_eq_true, bne_self_eq_false, Bool.and_true, Bool.true_and, Bool.and_false, Bool.false_and, not_true_eq_false, not_false_eq_true]
  have hsL := hLs hLe
  have hpos := List.length_pos_iff.mpr hLe
  have kL : ((v3.2.1 : Int) == 0) = false := by simp; omega
  have kLp : decide ((v3.2.1 : Int) > 0) = true := by simp; omega
  have hsL' : sortedI m.ns.length x.ls := by rw [hn5]; exact hsL
  by_cases hvt : v.tgt = []
  case neg =>
    have hmv : moveV m.ns x v = (v, 16) := by unfold moveV; rw [if_neg (by simp [hsL']), if_pos hvt]
    rw [hmv] at e7
    have kq : decide ((qt.2.1 : Int) > 0) = true := by have := List.length_pos_iff.mpr hvt; simp; omega
    refine ⟨w7, beg _ ?_, F7⟩
    unfold g4_l5_x0
    simp only [hk, e4, s5, e6, e7, kL, addr_add, Nat.zero_add, d5, kq, kLp, n1616, obs, asP_pointer, asB_bool, asI_int, asS_string, asSl_slice, asM_map, asTup0, asTup1, asTup2, asTup3, asTup4, asTup5, asTup6, asTup7, asTup8, asTup9, asAgg2, asAgg3, asAgg4, asAgg5, asAgg6, asAgg7, asAgg8, asAgg9, asAgg12, getD0, getD1, getD2, getD3, getD4, getD5, getD6, getD7, getD8, getD9, getD10, getD11, getD12, getD13, getD14, getD15, getD16, getD17, getD18, getD19, Bool.not_true, Bool.not_false, Bool.false_eq_true, Bool.true_eq_false, ↓reduceIte, decide_true, decide_false, Option.isNone_some, Option.isNone_none, Option.isSome_some, Option.isSome_none, beq_self_eq_true, bne_self_eq_false, Bool.and_true, Bool.true_and, Bool.and_false, Bool.false_and, not_true_eq_false, not_false_eq_true]
  have hmv : moveV m.ns x v = (settleV m.ns { v with tgt := L }, 0) := by unfold moveV; rw [if_neg (by simp [hsL']), if_neg (by simp [hvt])]
  rw [hmv] at e7 hI7
  have kq : decide ((qt.2.1 : Int) > 0) = false := by rw [hvt] at hqt; simp at hqt ⊢; omega
  have fo46 : Fr [] w4 w6 := (Fr.mono (Fr.app f5 f6) (by have z0_ := Fr.size f5; have z1_ := Fr.size f6; intro y_ hy_ hl_; grind [blkOf]))
  have nD : ∀ y, w3.heap.size ≤ y → ¬ D y := fun y hy hd => by have := hI3.lt y hd; omega
  have oi7 := (oi.fr fo46 (by simp)).fr fS7 (fun y hy hm => nD y (nn y (.inl hy)) (hS7 y hm))
  have or7 := (or_.fr fo46 (by simp)).fr fS7 (fun y hy hm => nD y (nn y (.inr (.inl hy))) (hS7 y hm))
  have hv3D : ∀ y ∈ blkOf v3, ¬ D y := fun y hy hd => by have := n3 y hy; have := hI2.lt y hd; omega
  have o7 := (o3.fr F36 (by simp)).fr fS7 (fun y hy hm => hv3D y hy (hS7 y hm))
  have hzw := F36.size
  have hz7 := fS7.size
  have hv3D7 : ∀ y ∈ blkOf v3, ¬ D7 y := fun y hy hd => by
    rcases C7.new y hd with hh | hh
    · exact hv3D y hy hh
    · have := o3.lt y hy; omega
  have hVIl := sortedI_len hVI.si
  have hVIr := sortedI_len hVI.sr
  have e56 := all56 (r30 := (.tuple #[.agg #[.int .i64 v.ld, .int .i64 v.ep, .int .i64 v.vr, .slice qi.1 qi.2.1 qi.2.2, .slice qr.1 qr.2.1 qr.2.2, .slice qt.1 qt.2.1 qt.2.2], .bool true], w4)) (tl := (v3, 5)) (p4 := some ⟨b, 0, none⟩) (u1 := n1) (n44 := 0) o7 (by omega) b7 (cs := v.cs qi qr qt) rfl oi7 (by omega)
  -- the image behind the move
  obtain ⟨hM7, _⟩ := apply_mi hM (by omega) x
  rw [hap, hmv] at hM7
  obtain ⟨u, hu⟩ : ∃ u, settleV m.ns { v with tgt := L } = u := ⟨_, rfl⟩
  rw [hu] at hI7 hM7
  have hk7 : k < (m.vs.set k u).length := by simpa using hkm
  obtain ⟨qi8, qr8, qt8, w8, e8, f8, oi8, or8, ot8, _⟩ := img_part2 hI7 hk7
  have hget : (m.vs.set k u)[k] = u := by simp
  rw [hget] at e8 oi8 or8 ot8
  obtain ⟨w9, s9, b9, f9, l9⟩ := newP w8 u qi8 qr8 qt8
  have F79 : Fr [] w7 w9 := (Fr.mono (Fr.app f8 f9) (by have z0_ := Fr.size f8; have z1_ := Fr.size f9; intro y_ hy_ hl_; grind [blkOf]))
  have oi9 := oi8.fr f9 (by simp)
  have or9 := or8.fr f9 (by simp)
  have ot9 := ot8.fr f9 (by simp)
  have d4 : w9.cell? ⟨w8.heap.size, 4, none⟩ = some (.slice qr8.1 qr8.2.1 qr8.2.2) := b9.cell 4
  have hmu : u ∈ m.vs.set k u := by
    have := List.getElem_mem hk7
    rw [hget] at this
    exact this
  have hVIu := hM7.vs u hmu
  have hul : u.rep.length ≤ m.ns.length := sortedI_len hVIu.sr
  have huli : u.isr.length ≤ m.ns.length := sortedI_len hVIu.si
  have hns5 : m.ns.length = 5 := hn5
  obtain ⟨w10, e10, f10⟩ := sameInts19 or9.slI (o7.fr F79 (by simp)).slI (by omega)
  have F710 : Fr [] w7 w10 := (Fr.mono (Fr.app F79 f10) (by have z0_ := Fr.size F79; have z1_ := Fr.size f10; intro y_ hy_ hl_; grind [blkOf]))
  have b10 := b9.fr f10 (by simp)
  have d5' : w10.cell? ⟨w8.heap.size, 5, none⟩ = some (.slice qt8.1 qt8.2.1 qt8.2.2) := b10.cell 5
  have d3 : w10.cell? ⟨w8.heap.size, 3, none⟩ = some (.slice qi8.1 qi8.2.1 qi8.2.2) := b10.cell 3
  have d0 : w10.cell? ⟨w8.heap.size, 0, none⟩ = some (.int .i64 u.ld) := b10.cell 0
  have hqt8 := ot9.len
  simp only [intsV', List.length_map, Nat.mul_one] at hqt8
  simp only [PV.arg] at e8
  have tt : (true == true) = true := rfl
  have ff : (false == false) = true := rfl
  have ft : (false == true) = false := rfl
  have beg2 : ∀ r, g4_l56_x4 (some ⟨b, 0, none⟩) n1 0 (v3, 5) (.tuple #[.agg #[.int .i64 v.ld, .int .i64 v.ep, .int .i64 v.vr, .slice qi.1 qi.2.1 qi.2.2, .slice qr.1 qr.2.1 qr.2.2, .slice qt.1 qt.2.1 qt.2.2], .bool true], w4) ((L.all fun n => decide (n ∈ v.isr)), (L.length : Int)) w7 = some r →
      callF Try.prog 4 #[.slice x0.1.1 x0.1.2.1 x0.1.2.2, .int .u8 n1, .slice x2.1.1 x2.1.2.1 x2.1.2.2] W = some r := by
    intro r hr
    refine beg _ ?_
    unfold g4_l5_x0
    simp only [hk, e4, s5, e6, e7, kL, addr_add, Nat.zero_add, d5, kq, obs, asP_pointer, asB_bool, asI_int, asS_string, asSl_slice, asM_map, asTup0, asTup1, asTup2, asTup3, asTup4, asTup5, asTup6, asTup7, asTup8, asTup9, asAgg2, asAgg3, asAgg4, asAgg5, asAgg6, asAgg7, asAgg8, asAgg9, asAgg12, getD0, getD1, getD2, getD3, getD4, getD5, getD6, getD7, getD8, getD9, getD10, getD11, getD12, getD13, getD14, getD15, getD16, getD17, getD18, getD19, Bool.not_true, Bool.not_false, Bool.false_eq_true, Bool.true_eq_false, ↓reduceIte, decide_true, decide_false, Option.isNone_some, Option.isNone_none, Option.isSome_some, Option.isSome_none, beq_self_eq_true, bne_self_eq_false, Bool.and_true, Bool.true_and, Bool.and_false, Bool.false_and, not_true_eq_false, not_false_eq_true]
    rw [g4_l56_x4_of e56]
    exact hr
  have FW7 := F7
  cases hall : L.all fun n => decide (n ∈ v.isr) with
  | true =>
    rw [hall] at beg2
    have hall' : ∀ n ∈ L, n ∈ v.isr := fun n hn => by simpa using List.all_eq_true.mp hall n hn
    obtain ⟨E1, E2, E3, _⟩ := settle_all (ns := m.ns) (v := { v with tgt := L }) hLe rfl hall'
    rw [hu] at E1 E2 E3
    rw [E1] at e10
    have kd : decide (L = L) = true := by simp
    rw [kd] at e10
    rw [E3] at hqt8
    have kq8 : ((qt8.2.1 : Int) == 0) = true := by simp at hqt8 ⊢; omega
    obtain ⟨w11, e11, f11⟩ := sameInts19 (oi9.fr f10 (by simp)).slI (o7.fr F710 (by simp)).slI (by omega)
    rw [E2, kd] at e11
    refine ⟨w11, beg2 _ ?_, (Fr.mono (Fr.app (Fr.app FW7 F710) f11) (by have z0_ := Fr.size FW7; have z1_ := Fr.size F710; have z2_ := Fr.size f11; intro y_ hy_ hl_; grind [blkOf]))⟩
    unfold g4_l56_x4
    simp only [hk, e8, s9, n00, addr_add, Nat.zero_add, d4, e10, tt, d5', kq8, d3, e11, obs, asP_pointer, asB_bool, asI_int, asS_string, asSl_slice, asM_map, asTup0, asTup1, asTup2, asTup3, asTup4, asTup5, asTup6, asTup7, asTup8, asTup9, asAgg2, asAgg3, asAgg4, asAgg5, asAgg6, asAgg7, asAgg8, asAgg9, asAgg12, getD0, getD1, getD2, getD3, getD4, getD5, getD6, getD7, getD8, getD9, getD10, getD11, getD12, getD13, getD14, getD15, getD16, getD17, getD18, getD19, Bool.not_true, Bool.not_false, Bool.false_eq_true, Bool.true_eq_false, ↓reduceIte, decide_true, decide_false, Option.isNone_some, Option.isNone_none, Option.isSome_some, Option.isSome_none, beq_self_eq_true, bne_self_eq_false, Bool.and_true, Bool.true_and, Bool.and_false, Bool.false_and, not_true_eq_false, not_false_eq_true]
  | false =>
    rw [hall] at beg2
    have hall' : ¬ ∀ n ∈ L, n ∈ v.isr := by
      intro hh
      rw [List.all_eq_true.mpr (fun n hn => by simp [hh n hn])] at hall
      cases hall
    have hu' : u = { v with tgt := L } := by rw [← hu]; exact settle_not hall'
    have urep : u.rep = v.rep := by rw [hu']
    have utgt : u.tgt = L := by rw [hu']
    have uld : u.ld = v.ld := by rw [hu']
    rw [urep] at e10
    rw [utgt] at hqt8
    have kq8 : ((qt8.2.1 : Int) == 0) = false := by simp; omega
    -- what follows, from a world on
    have tail : ∀ (y : World), Fr [] w10 y → 0 ≤ u.ld → ∃ e s w1, loopS (g4_l261_b (some ⟨b, 0, none⟩) (v3, 5) (.tuple #[.agg #[.int .i64 u.ld, .int .i64 u.ep, .int .i64 u.vr, .slice qi8.1 qi8.2.1 qi8.2.2, .slice qr8.1 qr8.2.1 qr8.2.2, .slice qt8.1 qt8.2.1 qt8.2.2], .bool true], w8) n1) (false, (none, 0, 0), 0) y = some (e, s, w1) ∧
        (e = .ret ∧ s.1 = true ∧ Fr [] y w1 ∨ e = .exit 6 ∧ ∃ w' D', g4_l261_x6 (.tuple #[.agg #[.int .i64 u.ld, .int .i64 u.ep, .int .i64 u.vr, .slice qi8.1 qi8.2.1 qi8.2.2, .slice qr8.1 qr8.2.1 qr8.2.2, .slice qt8.1 qt8.2.1 qt8.2.2], .bool true], w8) (some ⟨b, 0, none⟩) n1 (v3, 5) s w1 = some (.bool true, w') ∧ Chg D7 y w' D') := by
      intro y fy h0
      have F7y : Fr [] w7 y := (Fr.mono (Fr.app F710 fy) (by have z0_ := Fr.size F710; have z1_ := Fr.size fy; intro y_ hy_ hl_; grind [blkOf]))
      refine moves_tail (hI7.fr F7y (by simp)) hM7 (by omega) hn5 hk7 hk hsL (by rw [hget]; exact utgt) (by rw [hget]; exact h0) (qi := qi8) (qr := qr8) (qt := qt8) (by rw [hget]; exact b10.fr fy (by simp)) (by rw [hget]; exact (oi9.fr f10 (by simp)).fr fy (by simp)) (o7.fr F7y (by simp)) (fun hd => ?_) hv3D7
      have h1 : w8.heap.size < w7.heap.size := hI7.lt _ hd
      have h2 := f8.size
      omega
    have finish : ∀ (y w1 : World) (e : Exit) (s : Bool × Sh × Int) (G : Option (Value × World)), Fr [] w10 y → (e = .ret ∧ s.1 = true ∧ Fr [] y w1 → G = some (.bool s.1, w1)) →
        (∀ w', e = .exit 6 → g4_l261_x6 (.tuple #[.agg #[.int .i64 u.ld, .int .i64 u.ep, .int .i64 u.vr, .slice qi8.1 qi8.2.1 qi8.2.2, .slice qr8.1 qr8.2.1 qr8.2.2, .slice qt8.1 qt8.2.1 qt8.2.2], .bool true], w8) (some ⟨b, 0, none⟩) n1 (v3, 5) s w1 = some (.bool true, w') → G = some (.bool true, w')) →
        (e = .ret ∧ s.1 = true ∧ Fr [] y w1 ∨ e = .exit 6 ∧ ∃ w' D', g4_l261_x6 (.tuple #[.agg #[.int .i64 u.ld, .int .i64 u.ep, .int .i64 u.vr, .slice qi8.1 qi8.2.1 qi8.2.2, .slice qr8.1 qr8.2.1 qr8.2.2, .slice qt8.1 qt8.2.1 qt8.2.2], .bool true], w8) (some ⟨b, 0, none⟩) n1 (v3, 5) s w1 = some (.bool true, w') ∧ Chg D7 y w' D') →
        ∃ w', G = some (.bool true, w') ∧ Fr [] W w' := by
      intro y w1 e s G fy h1 h2 hQ
      have FWy : Fr [] W y := (Fr.mono (Fr.app (Fr.app FW7 F710) fy) (by have z0_ := Fr.size FW7; have z1_ := Fr.size F710; have z2_ := Fr.size fy; intro y_ hy_ hl_; grind [blkOf]))
      rcases hQ with ⟨rfl, hs, f⟩ | ⟨rfl, w', D', hx6, C⟩
      · refine ⟨w1, ?_, (Fr.mono (Fr.app FWy f) (by have z0_ := Fr.size FWy; have z1_ := Fr.size f; intro y_ hy_ hl_; grind [blkOf]))⟩
        rw [h1 ⟨rfl, hs, f⟩, hs]
      · obtain ⟨S, fS, hS⟩ := C.fr
        exact ⟨w', h2 w' rfl hx6, (FWy.app fS).mono (by intro z hz hlt; simp at hz; have := hD7W z (hS z hz); omega)⟩
    cases hrep : decide (v.rep = L) with
    | true =>
      rw [hrep] at e10
      have a4 : w10.cell? ⟨w4.heap.size, 4, none⟩ = some (.slice qr.1 qr.2.1 qr.2.2) := (b7.fr F710 (by simp)).cell 4
      obtain ⟨w11, e11, f11⟩ := sameInts19 (or7.fr F710 (by simp)).slI (o7.fr F710 (by simp)).slI (by omega)
      rw [hrep] at e11
      have b11 := b10.fr f11 (by simp)
      have d5'' : w11.cell? ⟨w8.heap.size, 5, none⟩ = some (.slice qt8.1 qt8.2.1 qt8.2.2) := b11.cell 5
      have d0'' : w11.cell? ⟨w8.heap.size, 0, none⟩ = some (.int .i64 u.ld) := b11.cell 0
      by_cases hneg : u.ld < 0
      · have kn : decide (u.ld < 0) = true := by simp [hneg]
        refine ⟨w11, beg2 _ ?_, (Fr.mono (Fr.app (Fr.app FW7 F710) f11) (by have z0_ := Fr.size FW7; have z1_ := Fr.size F710; have z2_ := Fr.size f11; intro y_ hy_ hl_; grind [blkOf]))⟩
        unfold g4_l56_x4
        simp only [hk, e8, s9, n00, addr_add, Nat.zero_add, d4, e10, ft, a4, e11, d5'', kq8, ff, d0'', kn, obs, asP_pointer, asB_bool, asI_int, asS_string, asSl_slice, asM_map, asTup0, asTup1, asTup2, asTup3, asTup4, asTup5, asTup6, asTup7, asTup8, asTup9, asAgg2, asAgg3, asAgg4, asAgg5, asAgg6, asAgg7, asAgg8, asAgg9, asAgg12, getD0, getD1, getD2, getD3, getD4, getD5, getD6, getD7, getD8, getD9, getD10, getD11, getD12, getD13, getD14, getD15, getD16, getD17, getD18, getD19, Bool.not_true, Bool.not_false, Bool.false_eq_true, Bool.true_eq_false, ↓reduceIte, decide_true, decide_false, Option.isNone_some, Option.isNone_none, Option.isSome_some, Option.isSome_none, beq_self_eq_true, bne_self_eq_false, Bool.and_true, Bool.true_and, Bool.and_false, Bool.false_and, not_true_eq_false, not_false_eq_true]
      · have kn : decide (u.ld < 0) = false := by simp; omega
        obtain ⟨e, s, w1, g, hQ⟩ := tail w11 f11 (by omega)
        obtain ⟨w', hG, hFW⟩ := finish w11 w1 e s (g4_l261 (some ⟨b, 0, none⟩) n1 (v3, 5) (.tuple #[.agg #[.int .i64 u.ld, .int .i64 u.ep, .int .i64 u.vr, .slice qi8.1 qi8.2.1 qi8.2.2, .slice qr8.1 qr8.2.1 qr8.2.2, .slice qt8.1 qt8.2.1 qt8.2.2], .bool true], w8) (false, (none, 0, 0), 0) w11) f11
          (fun hh => by obtain ⟨rfl, _, _⟩ := hh; rw [g4_l261_ret_of g, g4_l261_ret]) (fun w' he hx => by subst he; rw [g4_l261_x6_of g]; exact hx) hQ
        refine ⟨w', beg2 _ ?_, hFW⟩
        unfold g4_l56_x4
        simp only [hk, e8, s9, n00, addr_add, Nat.zero_add, d4, e10, ft, a4, e11, d5'', kq8, ff, d0'', kn, obs, asP_pointer, asB_bool, asI_int, asS_string, asSl_slice, asM_map, asTup0, asTup1, asTup2, asTup3, asTup4, asTup5, asTup6, asTup7, asTup8, asTup9, asAgg2, asAgg3, asAgg4, asAgg5, asAgg6, asAgg7, asAgg8, asAgg9, asAgg12, getD0, getD1, getD2, getD3, getD4, getD5, getD6, getD7, getD8, getD9, getD10, getD11, getD12, getD13, getD14, getD15, getD16, getD17, getD18, getD19, Bool.not_true, Bool.not_false, Bool.false_eq_true, Bool.true_eq_false, ↓reduceIte, decide_true, decide_false, Option.isNone_some, Option.isNone_none, Option.isSome_some, Option.isSome_none, beq_self_eq_true, bne_self_eq_false, Bool.and_true, Bool.true_and, Bool.and_false, Bool.false_and, not_true_eq_false, not_false_eq_true]
        exact hG
    | false =>
      rw [hrep] at e10
      by_cases hneg : u.ld < 0
      · have kn : decide (u.ld < 0) = true := by simp [hneg]
        refine ⟨w10, beg2 _ ?_, (Fr.mono (Fr.app FW7 F710) (by have z0_ := Fr.size FW7; have z1_ := Fr.size F710; intro y_ hy_ hl_; grind [blkOf]))⟩
        unfold g4_l56_x4
        simp only [hk, e8, s9, n00, addr_add, Nat.zero_add, d4, e10, ff, d5', kq8, d0, kn, obs, asP_pointer, asB_bool, asI_int, asS_string, asSl_slice, asM_map, asTup0, asTup1, asTup2, asTup3, asTup4, asTup5, asTup6, asTup7, asTup8, asTup9, asAgg2, asAgg3, asAgg4, asAgg5, asAgg6, asAgg7, asAgg8, asAgg9, asAgg12, getD0, getD1, getD2, getD3, getD4, getD5, getD6, getD7, getD8, getD9, getD10, getD11, getD12, getD13, getD14, getD15, getD16, getD17, getD18, getD19, Bool.not_true, Bool.not_false, Bool.false_eq_true, Bool.true_eq_false, ↓reduceIte, decide_true, decide_false, Option.isNone_some, Option.isNone_none, Option.isSome_some, Option.isSome_none, beq_self_eq_true, bne_self_eq_false, Bool.and_true, Bool.true_and, Bool.and_false, Bool.false_and, not_true_eq_false, not_false_eq_true]
      · have kn : decide (u.ld < 0) = false := by simp; omega
        obtain ⟨e, s, w1, g, hQ⟩ := tail w10 (Fr.refl _ _) (by omega)
        rw [← b594] at g
        obtain ⟨w', hG, hFW⟩ := finish w10 w1 e s (g4_l594 (some ⟨b, 0, none⟩) n1 (v3, 5) (.tuple #[.agg #[.int .i64 u.ld, .int .i64 u.ep, .int .i64 u.vr, .slice qi8.1 qi8.2.1 qi8.2.2, .slice qr8.1 qr8.2.1 qr8.2.2, .slice qt8.1 qt8.2.1 qt8.2.2], .bool true], w8) (false, (none, 0, 0), 0) w10) (Fr.refl _ _)
          (fun hh => by obtain ⟨rfl, _, _⟩ := hh; rw [g4_l594_ret_of g, g4_l594_ret]) (fun w' he hx => by subst he; rw [g4_l594_x6_of g, x594]; exact hx) hQ
        refine ⟨w', beg2 _ ?_, hFW⟩
        unfold g4_l56_x4
        simp only [hk, e8, s9, n00, addr_add, Nat.zero_add, d4, e10, ff, d5', kq8, d0, kn, obs, asP_pointer, asB_bool, asI_int, asS_string, asSl_slice, asM_map, asTup0, asTup1, asTup2, asTup3, asTup4, asTup5, asTup6, asTup7, asTup8, asTup9, asAgg2, asAgg3, asAgg4, asAgg5, asAgg6, asAgg7, asAgg8, asAgg9, asAgg12, getD0, getD1, getD2, getD3, getD4, getD5, getD6, getD7, getD8, getD9, getD10, getD11, getD12, getD13, getD14, getD15, getD16, getD17, getD18, getD19, Bool.not_true, Bool.not_false, Bool.false_eq_true, Bool.true_eq_false, ↓reduceIte, decide_true, decide_false, Option.isNone_some, Option.isNone_none, Option.isSome_some, Option.isSome_none, beq_self_eq_true, bne_self_eq_false, Bool.and_true, Bool.true_and, Bool.and_false, Bool.false_and, not_true_eq_false, not_false_eq_true]
        exact hG

theorem ImageMoves_main (W : World) (x0 : (Ty.slice (.cons (.int .i64) (.cons (.int .i64) (.cons (.int .i64) (.cons (.int .i64) (.cons (.int .i64) (.cons (.slice (.int .i64)) .nil))))))).Val) (h0 : (Ty.slice (.cons (.int .i64) (.cons (.int .i64) (.cons (.int .i64) (.cons (.int .i64) (.cons (.int .i64) (.cons (.slice (.int .i64)) .nil))))))).At W [.slice x0.1.1 x0.1.2.1 x0.1.2.2] x0) (n1 : Int) (h1 : IntKind.u8.min ≤ n1 ∧ n1 ≤ IntKind.u8.max) (x2 : (Ty.slice (.int .u8)).Val) (h2 : (Ty.slice (.int .u8)).At W [.slice x2.1.1 x2.1.2.1 x2.1.2.2] x2) (hs0 : Ty.Fits (.slice (.cons (.int .i64) (.cons (.int .i64) (.cons (.int .i64) (.cons (.int .i64) (.cons (.int .i64) (.cons (.slice (.int .i64)) .nil))))))) x0) (hs2 : Ty.Fits (.slice (.int .u8)) x2) :
    ∃ w', callF Try.prog 4 #[.slice x0.1.1 x0.1.2.1 x0.1.2.2, .int .u8 n1, .slice x2.1.1 x2.1.2.1 x2.1.2.2] W = some (.bool true, w') ∧ Fr [] W w' :=
  ImageMoves_main0 W x0 h0 n1 h1 x2 h2 hs0 hs2
end Go.Proofs.Ytjcenfgmpbeldaa
