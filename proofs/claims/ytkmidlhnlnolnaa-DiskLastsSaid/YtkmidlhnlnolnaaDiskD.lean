/-
  DiskD: lemmas on what Go functions of this seat come to (for whatever arguments, as each says). No condition but those that stand in each lemma.
-/
import Derived.Test.YtkmidlhnlnolnaaDiskC
namespace Go.Proofs.Ytkmidlhnlnolnaa
open Go Go.Ev
set_option maxRecDepth 100000
set_option linter.unusedVariables false
set_option linter.unusedSimpArgs false

theorem zs_take {bs : List Int} (h : Zs bs) (k : Nat) : Zs (bs.take k) := fun z hm => h z (List.mem_of_mem_take hm)
theorem zs_append {a c : List Int} (h : Zs a) (h' : Zs c) : Zs (a ++ c) := by
  intro z hz
  rw [List.mem_append] at hz
  exact hz.elim (h z) (h' z)

section
variable {w : World} {D : Nat → Prop} {b : Nat} {A : List (ByteArray × FV)} {fuse : Int} {dead : Bool}

/-- the first j of a slice of bytes -/
theorem slc8 {u : Option Addr × Nat × Nat} {p : List Int} (hu : Sl8 w u p) (hc : u.2.1 ≤ u.2.2) {j : Nat} (hj : j ≤ p.length) :
    ∃ q, slc u.1 u.2.1 u.2.2 1 none (some (j : Int)) none = some q ∧ SlC w 1 q ((p.take j).map (Value.int .u8)) ∧ q.2.1 = j ∧ ∀ x ∈ blkOf q, x ∈ blkOf u := by
  have hl := hu.1
  have hcut := hu.slC.cut (i := 0) (j := j) (Nat.zero_le _) (by omega) hc
  have e : List.take ((j - 0) * 1) (List.drop (0 * 1) (p.map (Value.int .u8))) = (p.take j).map (Value.int .u8) := by simp
  rw [e] at hcut
  exact ⟨_, slc_to (by omega), hcut, by simp, fun x hx => blkOf_cut x hx⟩

theorem tail30 {r : Nat} {fs : List FE} {U : Nat} (hb : Blk w b [.map (some r), .int .i64 fuse, .bool false, .int .i64 (U : Int)] 59) (hU : U = used (fs.map FE.ab)) (hm : MapAt Value.string w r (keysOf fs)) (hfs : Fs w D fs) (hDr : D r) (hDb : D b)
    (hlt : ∀ y, D y → y < w.heap.size) (hfuse : -1 ≤ fuse ∧ fuse ≤ 9223372036854775807) (hlen : fs.length ≤ 4096) {i : Nat} (hi : i < fs.length) {u : Option Addr × Nat × Nat} {p : List Int} (hp : Sl8 w u p) (hz : Zs p) (hc : u.2.1 ≤ u.2.2)
    (hd : 0 < p.length → ∀ y ∈ blkOf u, ¬ D y) {n : Nat} (hn : n ≤ p.length) (hroom : U + p.length ≤ 4194304) :
    ∃ w' D', g10_j30 (some ⟨fs[i].fb, 0, none⟩) u (some ⟨b, 0, none⟩) (n : Int) w = some (.int .i64 (if n < p.length then 9 else 0), w') ∧
      Dk w' D' b ((fs.map FE.ab).set i (fs[i].name, fs[i].data ++ p.take n, fs[i].syn)) fuse (decide (n < p.length)) ∧ Chg D w w' D' := by
  have ok := hfs.ok i hi
  have hul := hp.1
  have hug := used_get hi
  have hol := ok.own.len
  simp only [List.length_map, Nat.mul_one] at hol
  have f0 : Fr [] w w.drew := Fr.drew _ _
  have c0 : w.drew.cell? ⟨fs[i].fb, 0, none⟩ = some (.slice fs[i].q.1 fs[i].q.2.1 fs[i].q.2.2) := ok.blk.drew.cell 0
  obtain ⟨q, eq, sq, hql, bq⟩ := slc8 hp hc hn
  have sq' := sq.fr f0 (by simp)
  have hml : maxLen = 9223372036854775807 := by decide
  obtain ⟨v', w1, e1, o1, f1, hv1, hl1⟩ := app_sl t28 ok.own.drew sq' oc8 (by omega) (by omega) 28 #[false, false]
  rw [← List.map_append] at o1
  have fa : Fr (blkOf fs[i].q) w w1 := (Fr.mono (Fr.app f0 f1) (by have z0_ := Fr.size f0; have z1_ := Fr.size f1; intro y_ hy_ hl_; grind [blkOf]))
  have k1 := ok.blk.fr fa (ok.apart ok)
  have nb : b ≠ fs[i].fb := hb.ne ok.blk (by decide)
  have nbq : b ∉ blkOf fs[i].q := hb.notin ok.own (by decide)
  have hb1 := hb.fr fa nbq
  have t1 : st1 w1 ⟨fs[i].fb, 0, none⟩ (.slice v'.1 v'.2.1 v'.2.2) = some (w1.setCell ⟨fs[i].fb, 0, none⟩ (.slice v'.1 v'.2.1 v'.2.2)) := k1.st1 (by simp) rfl
  have f2 : Fr [fs[i].fb] w1 (w1.setCell ⟨fs[i].fb, 0, none⟩ (.slice v'.1 v'.2.1 v'.2.2)) := Fr.setCell
  have k2 := k1.set 0 (.slice v'.1 v'.2.1 v'.2.2)
  have hb2 := hb1.fr f2 (by simpa using nb)
  have hv1' : ∀ y ∈ blkOf v', y ∈ blkOf fs[i].q ∨ w.heap.size ≤ y := hv1
  have nfv : fs[i].fb ∉ blkOf v' := k1.notin o1 (by decide)
  have o2 := o1.fr f2 (by intro y hy hm; simp at hm; subst hm; exact nfv hy)
  generalize w1.setCell ⟨fs[i].fb, 0, none⟩ (.slice v'.1 v'.2.1 v'.2.2) = w2 at t1 f2 k2 hb2 o2
  simp only [List.set_cons_zero] at k2
  have c3 : w2.cell? ⟨b, 3, none⟩ = some (.int .i64 (U : Int)) := hb2.cell 3
  have hw : IntKind.i64.wrap ((U : Int) + (n : Int)) = ((U + n : Nat) : Int) := by rw [wrap_i64 (by omega) (by omega)]; omega
  have t3 : st1 w2 ⟨b, 3, none⟩ (.int .i64 ((U + n : Nat) : Int)) = some (w2.setCell ⟨b, 3, none⟩ (.int .i64 ((U + n : Nat) : Int))) := hb2.st1 (by simp) rfl
  have f3 : Fr [b] w2 (w2.setCell ⟨b, 3, none⟩ (.int .i64 ((U + n : Nat) : Int))) := Fr.setCell
  have hb3 := hb2.set 3 (.int .i64 ((U + n : Nat) : Int))
  have nbv : b ∉ blkOf v' := hb2.notin o2 (by decide)
  have o3 := o2.fr f3 (by intro y hy hm; simp at hm; subst hm; exact nbv hy)
  have k3 := k2.fr f3 (by simpa using nb.symm)
  generalize w2.setCell ⟨b, 3, none⟩ (.int .i64 ((U + n : Nat) : Int)) = w3 at t3 f3 hb3 o3 k3
  simp only [List.set_cons_succ, List.set_cons_zero] at hb3
  have fin : ∀ (w4 : World) (dd : Bool), Fr [b] w3 w4 → Blk w4 b [.map (some r), .int .i64 fuse, .bool dd, .int .i64 ((U + n : Nat) : Int)] 59 →
      Dk w4 (fun y => D y ∨ w.heap.size ≤ y ∧ y < w4.heap.size) b ((fs.map FE.ab).set i (fs[i].name, fs[i].data ++ p.take n, fs[i].syn)) fuse dd ∧ Chg D w w4 (fun y => D y ∨ w.heap.size ≤ y ∧ y < w4.heap.size) := by
    intro w4 dd f4 hb4
    have z_fa := Fr.size fa; have z_f2 := Fr.size f2; have z_f3 := Fr.size f3; have z_f4 := Fr.size f4
    have F : Fr (b :: fs[i].fb :: blkOf fs[i].q) w w4 := (Fr.mono (Fr.app (Fr.app (Fr.app fa f2) f3) f4) (by have z0_ := Fr.size fa; have z1_ := Fr.size f2; have z2_ := Fr.size f3; have z3_ := Fr.size f4; intro y_ hy_ hl_; grind [blkOf]))
    have o4 := o3.fr f4 (by intro y hy hm; simp at hm; subst hm; exact nbv hy)
    have k4 := k3.fr f4 (by simpa using nb.symm)
    have hus := used_set hi (fs[i].data ++ p.take n) fs[i].syn fs[i].name
    have hlt4 := o4.lt
    have rb : r ≠ b := hm.ne_blk hb
    have rf : r ≠ fs[i].fb := hm.ne_blk ok.blk
    have rq : r ∉ blkOf fs[i].q := hm.notin ok.own
    have htl : (p.take n).length = n := by rw [List.length_take]; omega
    rw [List.length_append, htl] at hus
    have hset : (fs.map FE.ab).set i (fs[i].name, fs[i].data ++ p.take n, fs[i].syn) = (fs.set i ⟨fs[i].name, fs[i].fb, v', fs[i].data ++ p.take n, fs[i].syn⟩).map FE.ab := by rw [List.map_set]; rfl
    have hkeys : keysOf (fs.set i ⟨fs[i].name, fs[i].fb, v', fs[i].data ++ p.take n, fs[i].syn⟩) = keysOf fs := by
      unfold keysOf
      rw [List.map_set]
      apply List.ext_getElem
      · simp
      · intro j h1 h2
        rw [List.getElem_set]
        split
        · rename_i h; subst h; simp
        · rfl
    refine ⟨⟨⟨r, fs.set i ⟨fs[i].name, fs[i].fb, v', fs[i].data ++ p.take n, fs[i].syn⟩, hset, ?_, ?_, ?_, .inl hDr⟩, .inl hDb, ?_, hfuse, by omega, by simp; omega⟩, ⟨⟨_, F, ?_⟩, fun y hy => .inl hy, fun y hy => hy.imp id (·.1)⟩⟩
    · have : ((used ((fs.map FE.ab).set i (fs[i].name, fs[i].data ++ p.take n, fs[i].syn)) : Nat) : Int) = ((U + n : Nat) : Int) := by omega
      rw [this]; exact hb4
    · rw [hkeys]; exact hm.fr F (by simp [rb, rf, rq])
    · refine hfs.set hi rfl rfl F ?_ (fun y hy => .inl hy) ⟨k4, o4, zs_append ok.zs (zs_take hz n), ?_, .inl ok.reg.1, ?_⟩ hv1'
      · intro y hy
        simp only [List.mem_cons] at hy
        rcases hy with hy | hy | hy
        · subst hy; right; right; exact fun j hj => ⟨hb.ne (hfs.ok j hj).blk (by decide), hb.notin (hfs.ok j hj).own (by decide)⟩
        · exact .inl hy
        · exact .inr (.inl hy)
      · show fs[i].syn ≤ (fs[i].data ++ p.take n).length
        rw [List.length_append]; have := ok.syn; omega
      · intro y hy
        rcases hv1' y hy with hh | hh
        · exact .inl (ok.reg.2 y hh)
        · exact .inr ⟨hh, hlt4 y hy⟩
    · intro y hy
      rcases hy with hy | hy
      · have := hlt y hy; omega
      · exact hy.2
    · intro y hy
      simp only [List.mem_cons] at hy
      rcases hy with hy | hy | hy
      · subst hy; exact hDb
      · subst hy; exact ok.reg.1
      · exact ok.reg.2 y hy
  by_cases hnl : n < p.length
  · have hc4 : (n : Int) < (u.2.1 : Int) := by omega
    have t4 : st1 w3 ⟨b, 2, none⟩ (.bool true) = some (w3.setCell ⟨b, 2, none⟩ (.bool true)) := hb3.st1 (by simp) rfl
    have hb4 := hb3.set 2 (.bool true)
    simp only [List.set_cons_succ, List.set_cons_zero] at hb4
    obtain ⟨d, c⟩ := fin _ true Fr.setCell hb4
    refine ⟨_, _, ?_, by rw [decide_eq_true hnl]; exact d, c⟩
    rw [if_pos hnl]
    unfold g10_j30
    simp only [c0, eq, e1, t1, addr_add, Nat.zero_add, c3, hw, t3, hc4, t4, obs, asP_pointer, asB_bool, asI_int, asS_string, asSl_slice, asM_map, asTup0, asTup1, asTup2, asTup3, asTup4, asTup5, asTup6, asTup7, asTup8, asTup9, asAgg2, asAgg3, asAgg4, asAgg5, asAgg6, asAgg7, asAgg8, asAgg9, asAgg12, getD0, getD1, getD2, getD3, getD4, getD5, getD6, getD7, getD8, getD9, getD10, getD11, getD12, getD13, getD14, getD15, getD16, getD17, getD18, getD19, Bool.not_true, Bool.not_false, Bool.false_eq_true, Bool.true_eq_false, ↓reduceIte, decide_true, decide_false, Option.isNone_some, Option.isNone_none, Option.isSome_some, Option.isSome_none, beq_self_eq_true, bne_self_eq_false, Bool.and_true, Bool.true_and, Bool.and_false, Bool.false_and, not_true_eq_false, not_false_eq_true]
  · have hc4 : ¬ (n : Int) < (u.2.1 : Int) := by omega
    obtain ⟨d, c⟩ := fin _ false (Fr.refl _ _) hb3
    refine ⟨_, _, ?_, by rw [decide_eq_false hnl]; exact d, c⟩
    rw [if_neg hnl]
    unfold g10_j30
    simp only [c0, eq, e1, t1, addr_add, Nat.zero_add, c3, hw, t3, hc4, obs, asP_pointer, asB_bool, asI_int, asS_string, asSl_slice, asM_map, asTup0, asTup1, asTup2, asTup3, asTup4, asTup5, asTup6, asTup7, asTup8, asTup9, asAgg2, asAgg3, asAgg4, asAgg5, asAgg6, asAgg7, asAgg8, asAgg9, asAgg12, getD0, getD1, getD2, getD3, getD4, getD5, getD6, getD7, getD8, getD9, getD10, getD11, getD12, getD13, getD14, getD15, getD16, getD17, getD18, getD19, Bool.not_true, Bool.not_false, Bool.false_eq_true, Bool.true_eq_false, ↓reduceIte, decide_true, decide_false, Option.isNone_some, Option.isNone_none, Option.isSome_some, Option.isSome_none, beq_self_eq_true, bne_self_eq_false, Bool.and_true, Bool.true_and, Bool.and_false, Bool.false_and, not_true_eq_false, not_false_eq_true]
end
end Go.Proofs.Ytkmidlhnlnolnaa
