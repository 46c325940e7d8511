/-
  DiskFull: lemmas on what Go functions of this seat come to (for whatever arguments, as each says). No condition but those that stand in each lemma.
-/
import Derived.Test.YtkmidlhnlnolnaaDiskV
namespace Go.Proofs.Ytkmidlhnlnolnaa
open Go Go.Ev
set_option maxRecDepth 100000
set_option linter.unusedVariables false
set_option linter.unusedSimpArgs false

def manyL (n : Nat) : List Int := (List.range n).map fun i => ((i % 256 : Nat) : Int)
theorem manyL_len (n : Nat) : (manyL n).length = n := by simp [manyL]
theorem manyL_succ (n : Nat) : manyL (n + 1) = manyL n ++ [((n % 256 : Nat) : Int)] := by simp [manyL, List.range_succ]
theorem manyL_zs (n : Nat) : Zs (manyL n) := by
  intro z hz
  obtain ⟨i, _, rfl⟩ := List.mem_map.mp hz
  have : i % 256 < 256 := Nat.mod_lt _ (by decide)
  constructor <;> omega

theorem many16 (W : World) {n : Nat} (hn : n ≤ 4194304) : ∃ (q : ShS) (w' : World), callF Try.prog 16 #[.int .i64 (n : Int)] W = some (.slice q.1 q.2.1 q.2.2, w') ∧ Own w' 5 1 q ((manyL n).map (Value.int .u8)) ∧ Fr [] W w' ∧ ∀ y ∈ blkOf q, W.heap.size ≤ y := by
  have hml : maxLen = 9223372036854775807 := by decide
  obtain ⟨t, w1, g1, hk, o, f, nn⟩ := loopS_countX 0 (b := g16_l1_b (n : Int)) (n := n)
    (I := fun k s x => s.2 = (k : Int) ∧ Own x 5 1 s.1 ((manyL k).map (Value.int .u8)) ∧ Fr [] W x ∧ ∀ y ∈ blkOf s.1, W.heap.size ≤ y)
    (fun k s x hk ⟨hs, ho, hf, hn'⟩ => by
      obtain ⟨s1, s2⟩ := s
      simp only at hs ho hn'
      subst hs
      have hol := ho.len
      simp only [List.length_map, manyL_len, Nat.mul_one] at hol
      have wu : IntKind.u8.wrap (k : Int) = ((k % 256 : Nat) : Int) := by
        have e : IntKind.u8.wrap (k : Int) = (k : Int) % 256 := by simp [IntKind.wrap, IntKind.bits, IntKind.signed]
        rw [e]; omega
      obtain ⟨q1, x2, a2, o2, f2, m2, l2⟩ := app_one t28 ho (ys := [.int .u8 ((k % 256 : Nat) : Int)]) rfl (by intro y hy; simp at hy; subst hy; rfl) (by omega) (by omega) 28 #[false, false]
      have k0 : decide ((k : Int) < (n : Int)) = true := by simp; omega
      have k1 : decide ((k : Int) ≤ 4194304) = true := by simp; omega
      have kw := wrap_succ (n := k) (by omega)
      have a2' : callB Try.prog .append #[28, 28] 28 #[false, false] #[.slice s1.1 s1.2.1 s1.2.2, .slice (some ⟨x.heap.size, 0, none⟩) 1 1] (x.alloc (.cells #[.int .u8 ((k % 256 : Nat) : Int)] 5)) = some (.slice q1.1 q1.2.1 q1.2.2, x2) := a2
      have zz := hf.size
      refine ⟨(q1, ((k + 1 : Nat) : Int)), x2, ?_, rfl, ?_, (hf.app f2).mono ?_, fun y hy => ?_⟩
      · unfold g16_l1_b
        simp only [k0, k1, wu, a2', kw, obs, asP_pointer, asB_bool, asI_int, asS_string, asSl_slice, asM_map, asTup0, asTup1, asTup2, asTup3, asTup4, asTup5, asTup6, asTup7, asTup8, asTup9, asAgg2, asAgg3, asAgg4, asAgg5, asAgg6, asAgg7, asAgg8, asAgg9, asAgg12, getD0, getD1, getD2, getD3, getD4, getD5, getD6, getD7, getD8, getD9, getD10, getD11, getD12, getD13, getD14, getD15, getD16, getD17, getD18, getD19, Bool.not_true, Bool.not_false, Bool.false_eq_true, Bool.true_eq_false, ↓reduceIte, decide_true, decide_false, Option.isNone_some, Option.isNone_none, Option.isSome_some, Option.isSome_none, beq_self_eq_true, bne_self_eq_false, Bool.and_true, Bool.true_and, Bool.and_false, Bool.false_and, not_true_eq_false, not_false_eq_true]
      · rw [manyL_succ, List.map_append]; exact o2
      · intro y hy hlt
        simp at hy
        have := hn' y hy; omega
      · rcases m2 y hy with hh | hh
        · exact hn' y hh
        · omega)
    (fun s x ⟨hs, _⟩ => by
      obtain ⟨s1, s2⟩ := s
      simp only at hs
      subst hs
      have k0 : decide ((n : Int) < (n : Int)) = false := by simp
      unfold g16_l1_b
      simp only [k0, Bool.false_eq_true, if_false]) (k := 0) (s := ((none, 0, 0), 0)) (w := W) (Nat.zero_le _) ⟨rfl, Own.nil W 5 1, Fr.refl _ _, by simp [blkOf]⟩
  refine ⟨t.1, w1, g16_call ?_, o, f, nn⟩
  unfold g16
  rw [g16_l1_x0_of g1, g16_l1_x0]

/-- the name of the i-th small file -/
def nmL (i : Nat) : List Int := [((97 + i / 676 : Nat) : Int), ((97 + i / 26 % 26 : Nat) : Int), ((97 + i % 26 : Nat) : Int)]
def nmI (i : Nat) : ByteArray := (⟨#[102]⟩ : ByteArray) ++ ofB (nmL i)
def bigN : ByteArray := ⟨#[98, 105, 103]⟩
theorem nmI_size (i : Nat) : (nmI i).size = 4 := by
  unfold nmI
  rw [ByteArray.size_append]
  rfl
theorem ofB_inj {l l' : List Int} (h : ofB l = ofB l') (hz : ∀ z ∈ l, 0 ≤ z ∧ z < 256) (hz' : ∀ z ∈ l', 0 ≤ z ∧ z < 256) : l = l' := by
  unfold ofB at h
  injection h with h
  have h2 : l.map (fun z => UInt8.ofNat z.toNat) = l'.map (fun z => UInt8.ofNat z.toNat) := by
    have := congrArg Array.toList h; simpa using this
  have hl : l.length = l'.length := by have := congrArg List.length h2; simpa using this
  apply List.ext_getElem hl
  intro i h1 h1'
  have e : (l.map (fun z => UInt8.ofNat z.toNat))[i]'(by simpa using h1) = (l'.map (fun z => UInt8.ofNat z.toNat))[i]'(by simpa using h1') := by simp only [h2]
  simp only [List.getElem_map] at e
  have e2 := congrArg UInt8.toNat e
  have a := hz _ (List.getElem_mem h1)
  have a' := hz' _ (List.getElem_mem h1')
  rw [show (UInt8.ofNat l[i].toNat).toNat = l[i].toNat % 256 from rfl, show (UInt8.ofNat l'[i].toNat).toNat = l'[i].toNat % 256 from rfl] at e2
  omega
theorem nmL_zs {i : Nat} (h : i < 17576) : Zs (nmL i) := by
  intro z hz
  simp only [nmL, List.mem_cons, List.not_mem_nil, or_false] at hz
  rcases hz with rfl | rfl | rfl <;> constructor <;> omega
theorem nmI_inj {i j : Nat} (hi : i < 17576) (hj : j < 17576) (h : nmI i = nmI j) : i = j := by
  unfold nmI at h
  have h2 : ofB (nmL i) = ofB (nmL j) := by
    have := congrArg ByteArray.data h
    simp only [ByteArray.data_append] at this
    have h3 := congrArg Array.toList this
    simp only [Array.toList_append] at h3
    have h4 := List.append_cancel_left h3
    cases ha : ofB (nmL i)
    cases hb : ofB (nmL j)
    rw [ha, hb] at h4
    congr 1
    exact Array.toList_inj.mp h4
  have h5 := ofB_inj h2 (nmL_zs hi) (nmL_zs hj)
  simp only [nmL, List.cons.injEq, and_true] at h5
  omega
theorem nmI_ne_big (i : Nat) : nmI i ≠ bigN := fun h => by
  have := congrArg ByteArray.size h
  rw [nmI_size] at this
  revert this
  decide

/-- what stands on the disk behind k small files -/
structure FS (A : List (ByteArray × FV)) (m k : Nat) : Prop where
  len : A.length = m
  cnt : m = min (k + 1) 4096
  us : used A = 4194304
  big : ∃ v, kget A bigN = some v ∧ v.1.length = 4194304
  nms : ∀ e ∈ A, e.1 = bigN ∨ ∃ j, j < k ∧ e.1 = nmI j

theorem FS.fresh {A : List (ByteArray × FV)} {m k : Nat} (h : FS A m k) (hk : k < 17576) : kget A (nmI k) = none := by
  rw [kget_none]
  intro hm
  obtain ⟨e, he, hh⟩ := List.mem_map.mp hm
  rcases h.nms e he with hb | ⟨j, hj, hb⟩
  · exact nmI_ne_big k (hh.symm.trans hb)
  · have := nmI_inj hk (by omega) (hh.symm.trans hb); omega

theorem FS.step {A : List (ByteArray × FV)} {m k : Nat} (h : FS A m k) (hk : k < 17576) : ∃ A', appA A (-1) false (nmI k) [] = (if m < 4096 then 0 else 3, A', -1, false) ∧ FS A' (if m < 4096 then m + 1 else m) (k + 1) := by
  have hf := h.fresh hk
  have hs := nmI_size k
  have hl := h.len
  have hmk := h.cnt
  have hu := h.us
  unfold appA
  rw [if_neg (by decide), if_neg (by omega), hf, hu]
  by_cases hm : m < 4096
  · rw [if_neg (by simp; omega), if_pos hm, if_pos hm]
    refine ⟨A ++ [(nmI k, ([], 0))], ?_, ⟨by simp; omega, by omega, ?_, ?_, ?_⟩⟩
    · have e0 : tookN (-1) ([] : List Int).length = 0 := by decide
      have e1 : fuseN (-1) ([] : List Int).length = -1 := by decide
      rcases kcases A (nmI k) with ⟨i, hi, _, h2, _⟩ | ⟨_, _, h3, _⟩
      · rw [hf] at h2; cases h2
      · rw [h3, e0, e1]; rfl
    · unfold used at hu ⊢; simp [hu]
    · obtain ⟨v, hv, hvl⟩ := h.big
      refine ⟨v, ?_, hvl⟩
      have h3 : kups A (nmI k) (fun _ => ([], 0)) = A ++ [(nmI k, ([], 0))] := by
        rcases kcases A (nmI k) with ⟨i, hi, _, h2, _⟩ | ⟨_, _, h3, _⟩
        · rw [hf] at h2; cases h2
        · exact h3 _
      rw [← h3, kget_ups, if_neg (fun e => nmI_ne_big k e.symm)]
      exact hv
    · intro e he
      rcases List.mem_append.mp he with he | he
      · rcases h.nms e he with hb | ⟨j, hj, hb⟩
        · exact .inl hb
        · exact .inr ⟨j, by omega, hb⟩
      · simp at he; subst he; exact .inr ⟨k, by omega, rfl⟩
  · rw [if_pos (by right; exact ⟨rfl, by omega⟩), if_neg hm, if_neg hm]
    exact ⟨A, rfl, h.len, by omega, hu, h.big, fun e he => by
      rcases h.nms e he with hb | ⟨j, hj, hb⟩
      · exact .inl hb
      · exact .inr ⟨j, by omega, hb⟩⟩

theorem app_big1 {p : List Int} (hp : p.length ≤ 4194304) : appA [] (-1) false bigN p = (0, [(bigN, (p, 0))], -1, false) := by
  have e0 : ∀ l, tookN (-1) l = l := fun l => by unfold tookN; rw [if_neg (by decide)]
  have e1 : ∀ l, fuseN (-1) l = -1 := fun l => by unfold fuseN; rw [if_neg (by decide)]
  have hb : bigN.size = 3 := by decide
  unfold appA
  rw [if_neg (by decide), if_neg (by omega), if_neg (by simp [used]; omega), e0, e1]
  simp [kups, putF]
theorem app_bigF {p r : List Int} {s : Nat} (hr : r.length > 4194304 - p.length) : appA [(bigN, (p, s))] (-1) false bigN r = (3, [(bigN, (p, s))], -1, false) := by
  have hb : bigN.size = 3 := by decide
  unfold appA
  rw [if_neg (by decide), if_neg (by omega), if_pos (by left; simpa [used] using hr)]
theorem app_big2 {p r : List Int} {s : Nat} (hr : r.length ≤ 4194304 - p.length) : appA [(bigN, (p, s))] (-1) false bigN r = (0, [(bigN, (p ++ r, s))], -1, false) := by
  have e0 : ∀ l, tookN (-1) l = l := fun l => by unfold tookN; rw [if_neg (by decide)]
  have e1 : ∀ l, fuseN (-1) l = -1 := fun l => by unfold fuseN; rw [if_neg (by decide)]
  have hb : bigN.size = 3 := by decide
  unfold appA
  rw [if_neg (by decide), if_neg (by omega), if_neg (by
    rintro (hh | ⟨hh, _⟩)
    · simp [used] at hh; omega
    · simp [kget_cons] at hh), e0, e1]
  simp [kups, putF]

theorem chg_out {W x x' : World} {D D' : Nat → Prop} (F : Fr [] W x) (hD : ∀ y, D y → W.heap.size ≤ y) (c : Chg D x x' D') : Fr [] W x' ∧ ∀ y, D' y → W.heap.size ≤ y := by
  obtain ⟨S, fS, hS⟩ := c.fr
  have := F.size
  refine ⟨(F.app fS).mono (by intro y hy hlt; simp at hy; have := hD y (hS y hy); omega), fun y hy => ?_⟩
  rcases c.new y hy with hh | hh
  · exact hD y hh
  · omega

theorem full_round {W x : World} {D : Nat → Prop} {b : Nat} {A : List (ByteArray × FV)} {m k N : Nat} (F : Fr [] W x) (hD : ∀ y, D y → W.heap.size ≤ y) (d : Dk x D b A (-1) false) (h : FS A m k) (hk : k < N) (hN : N ≤ 5000) {u1 : Int} (hu : IntKind.i64.wrap (4056 + IntKind.i64.wrap (Int.tmod u1 80)) = (N : Int)) :
    ∃ (D' : Nat → Prop) (A' : List (ByteArray × FV)) (m' : Nat) (x' : World), g4_l21_b u1 (some ⟨b, 0, none⟩) (false, (m : Int), (k : Int)) x = some (.normal, (false, (m' : Int), ((k + 1 : Nat) : Int)), x') ∧ Fr [] W x' ∧ (∀ y, D' y → W.heap.size ≤ y) ∧ Dk x' D' b A' (-1) false ∧ FS A' m' (k + 1) := by
  have k0 : decide ((k : Int) < IntKind.i64.wrap (4056 + IntKind.i64.wrap (Int.tmod u1 80))) = true := by rw [hu]; simp; omega
  have kw := wrap_succ (n := k) (by omega)
  have u8 : ∀ z : Nat, z < 256 → IntKind.u8.wrap (z : Int) = (z : Int) := by
    intro z hz
    have e : IntKind.u8.wrap (z : Int) = (z : Int) % 256 := by simp [IntKind.wrap, IntKind.bits, IntKind.signed]
    rw [e]; omega
  have a1 : IntKind.u8.wrap (IntKind.i64.wrap (97 + IntKind.i64.wrap (Int.tdiv (k : Int) 676))) = ((97 + k / 676 : Nat) : Int) := by
    rw [Int.tdiv_eq_ediv_of_nonneg (by omega), wrap_i64 (n := (k : Int) / 676) (by omega) (by omega), wrap_i64 (by omega) (by omega)]
    have : 97 + (k : Int) / 676 = ((97 + k / 676 : Nat) : Int) := by omega
    rw [this, u8 _ (by omega)]
  have a2 : IntKind.u8.wrap (IntKind.i64.wrap (97 + Int.tmod (IntKind.i64.wrap (Int.tdiv (k : Int) 26)) 26)) = ((97 + k / 26 % 26 : Nat) : Int) := by
    rw [Int.tdiv_eq_ediv_of_nonneg (by omega), wrap_i64 (n := (k : Int) / 26) (by omega) (by omega), Int.tmod_eq_emod_of_nonneg (by omega), wrap_i64 (by omega) (by omega)]
    have : 97 + (k : Int) / 26 % 26 = ((97 + k / 26 % 26 : Nat) : Int) := by omega
    rw [this, u8 _ (by omega)]
  have a3 : IntKind.u8.wrap (IntKind.i64.wrap (97 + Int.tmod (k : Int) 26)) = ((97 + k % 26 : Nat) : Int) := by
    rw [Int.tmod_eq_emod_of_nonneg (by omega), wrap_i64 (by omega) (by omega)]
    have : 97 + (k : Int) % 26 = ((97 + k % 26 : Nat) : Int) := by omega
    rw [this, u8 _ (by omega)]
  obtain ⟨x1, hx1⟩ : ∃ x1, x.alloc (.cells #[.int .u8 ((97 + k / 676 : Nat) : Int), .int .u8 ((97 + k / 26 % 26 : Nat) : Int), .int .u8 ((97 + k % 26 : Nat) : Int)] 5) = x1 := ⟨_, rfl⟩
  have f1 : Fr [] x x1 := by rw [← hx1]; exact Fr.alloc _
  have b1 : Blk x1 x.heap.size ((nmL k).map (Value.int .u8)) 5 := by rw [← hx1]; exact Blk.new x ((nmL k).map (Value.int .u8)) 5
  have s1 : Sl8 x1 (some ⟨x.heap.size, 0, none⟩, 3, 3) (nmL k) := ⟨rfl, fun _ => ⟨x.heap.size, 0, rfl, b1.lt, fun i hi => by
    have := b1.cell i
    rw [Nat.zero_add, this, List.getElem?_eq_getElem (by simpa using hi), List.getElem_map]⟩⟩
  have ec := conv_str s1 (nmL_zs (by omega))
  have d1 := d.fr f1 (by simp)
  have F1 : Fr [] W x1 := (Fr.mono (Fr.app F f1) (by have z0_ := Fr.size F; have z1_ := Fr.size f1; intro y_ hy_ hl_; grind [blkOf]))
  have sz : ¬ ((((⟨#[102]⟩ : ByteArray).size + (ofB (nmL k)).size : Nat) : Int) > IntKind.i64.max) := by
    have : (ofB (nmL k)).size = 3 := rfl
    rw [this]
    decide
  obtain ⟨x2, D2, e2, d2, c2⟩ := append10 d1 (nmI k) (u := (none, 0, 0)) (p := []) ⟨rfl, fun h => absurd h (by decide)⟩ (by intro z hz; cases hz) (Nat.le_refl _) (by intro h; cases h) (by decide)
  obtain ⟨A', eA, hA'⟩ := h.step (by omega)
  rw [eA] at e2 d2
  obtain ⟨F2, hD2⟩ := chg_out F1 hD c2
  have e2' : callF Try.prog 10 #[.pointer (some ⟨b, 0, none⟩), .string ((⟨#[102]⟩ : ByteArray) ++ ofB (nmL k)), .slice none 0 0] x1 = some (.int .i64 (if m < 4096 then 0 else 3), x2) := e2
  refine ⟨D2, A', _, x2, ?_, F2, hD2, d2, hA'⟩
  unfold g4_l21_b
  have hcnt := h.cnt
  by_cases hm : m < 4096
  · have q1 : decide ((m : Int) < 4096) = true := by simp; omega
    have mw := wrap_succ (n := m) (by omega)
    rw [if_pos hm] at e2' ⊢
    have z0 : ((0 : Int) == 0) = true := rfl
    have z1 : ((0 : Int) != 0) = false := rfl
    simp only [k0, a1, a2, a3, hx1, ec, obs, asP_pointer, asB_bool, asI_int, asS_string, asSl_slice, asM_map, asTup0, asTup1, asTup2, asTup3, asTup4, asTup5, asTup6, asTup7, asTup8, asTup9, asAgg2, asAgg3, asAgg4, asAgg5, asAgg6, asAgg7, asAgg8, asAgg9, asAgg12, getD0, getD1, getD2, getD3, getD4, getD5, getD6, getD7, getD8, getD9, getD10, getD11, getD12, getD13, getD14, getD15, getD16, getD17, getD18, getD19, Bool.not_true, Bool.not_false, Bool.false_eq_true, Bool.true_eq_false, ↓reduceIte, decide_true, decide_false, Option.isNone_some, Option.isNone_none, Option.isSome_some, Option.isSome_none, beq_self_eq_true, bne_self_eq_false, Bool.and_true, Bool.true_and, Bool.and_false, Bool.false_and, not_true_eq_false, not_false_eq_true]
    rw [if_neg sz]
    simp only [e2', q1, z0, z1, mw, kw, obs, asP_pointer, asB_bool, asI_int, asS_string, asSl_slice, asM_map, asTup0, asTup1, asTup2, asTup3, asTup4, asTup5, asTup6, asTup7, asTup8, asTup9, asAgg2, asAgg3, asAgg4, asAgg5, asAgg6, asAgg7, asAgg8, asAgg9, asAgg12, getD0, getD1, getD2, getD3, getD4, getD5, getD6, getD7, getD8, getD9, getD10, getD11, getD12, getD13, getD14, getD15, getD16, getD17, getD18, getD19, Bool.not_true, Bool.not_false, Bool.false_eq_true, Bool.true_eq_false, ↓reduceIte, decide_true, decide_false, Option.isNone_some, Option.isNone_none, Option.isSome_some, Option.isSome_none, beq_self_eq_true, bne_self_eq_false, Bool.and_true, Bool.true_and, Bool.and_false, Bool.false_and, not_true_eq_false, not_false_eq_true]
  · have q1 : decide ((m : Int) < 4096) = false := by simp; omega
    rw [if_neg hm] at e2' ⊢
    have z0 : ((3 : Int) == 0) = false := rfl
    have z1 : ((3 : Int) != 0) = true := rfl
    have z2 : ((3 : Int) != 3) = false := rfl
    simp only [k0, a1, a2, a3, hx1, ec, obs, asP_pointer, asB_bool, asI_int, asS_string, asSl_slice, asM_map, asTup0, asTup1, asTup2, asTup3, asTup4, asTup5, asTup6, asTup7, asTup8, asTup9, asAgg2, asAgg3, asAgg4, asAgg5, asAgg6, asAgg7, asAgg8, asAgg9, asAgg12, getD0, getD1, getD2, getD3, getD4, getD5, getD6, getD7, getD8, getD9, getD10, getD11, getD12, getD13, getD14, getD15, getD16, getD17, getD18, getD19, Bool.not_true, Bool.not_false, Bool.false_eq_true, Bool.true_eq_false, ↓reduceIte, decide_true, decide_false, Option.isNone_some, Option.isNone_none, Option.isSome_some, Option.isSome_none, beq_self_eq_true, bne_self_eq_false, Bool.and_true, Bool.true_and, Bool.and_false, Bool.false_and, not_true_eq_false, not_false_eq_true]
    rw [if_neg sz]
    simp only [e2', q1, z0, z1, z2, kw, obs, asP_pointer, asB_bool, asI_int, asS_string, asSl_slice, asM_map, asTup0, asTup1, asTup2, asTup3, asTup4, asTup5, asTup6, asTup7, asTup8, asTup9, asAgg2, asAgg3, asAgg4, asAgg5, asAgg6, asAgg7, asAgg8, asAgg9, asAgg12, getD0, getD1, getD2, getD3, getD4, getD5, getD6, getD7, getD8, getD9, getD10, getD11, getD12, getD13, getD14, getD15, getD16, getD17, getD18, getD19, Bool.not_true, Bool.not_false, Bool.false_eq_true, Bool.true_eq_false, ↓reduceIte, decide_true, decide_false, Option.isNone_some, Option.isNone_none, Option.isSome_some, Option.isSome_none, beq_self_eq_true, bne_self_eq_false, Bool.and_true, Bool.true_and, Bool.and_false, Bool.false_and, not_true_eq_false, not_false_eq_true]

theorem DiskFull_main (W : World) (n0 : Int) (h0 : IntKind.i64.min ≤ n0 ∧ n0 ≤ IntKind.i64.max) (n1 : Int) (h1 : IntKind.u8.min ≤ n1 ∧ n1 ≤ IntKind.u8.max) :
    ∃ w', callF Try.prog 4 #[.int .i64 n0, .int .u8 n1] W = some (.bool true, w') ∧ Fr [] W w' := by
  obtain ⟨w1, D1, e1, d1, f1, m1⟩ := new8 W
  obtain ⟨b, hb⟩ : ∃ b, W.heap.size + 1 = b := ⟨_, rfl⟩
  rw [hb] at e1 d1
  obtain ⟨w2, e2, f2⟩ := awake9 (w := w1)
  have d2 := d1.fr f2 (by simp)
  have F2 : Fr [] W w2 := (Fr.mono (Fr.app f1 f2) (by have z0_ := Fr.size f1; have z1_ := Fr.size f2; intro y_ hy_ hl_; grind [blkOf]))
  -- the number
  have t1 : Int.tmod n0 4096 < 4096 := Int.tmod_lt_of_pos _ (by decide)
  have t2 : -4096 < Int.tmod n0 4096 := by
    have := Int.lt_tmod_of_pos n0 (show (0 : Int) < 4096 by decide); omega
  have wt : IntKind.i64.wrap (Int.tmod n0 4096 + 4096) = Int.tmod n0 4096 + 4096 := wrap_i64 (by omega) (by omega)
  have hmm : ∃ m : Nat, Int.tmod (Int.tmod n0 4096 + 4096) 4096 = (m : Int) ∧ m < 4096 := by
    have a := Int.tmod_lt_of_pos (Int.tmod n0 4096 + 4096) (show (0 : Int) < 4096 by decide)
    have c := Int.tmod_nonneg 4096 (show 0 ≤ Int.tmod n0 4096 + 4096 by omega)
    exact ⟨(Int.tmod (Int.tmod n0 4096 + 4096) 4096).toNat, by omega, by omega⟩
  obtain ⟨m, hm, hm2⟩ := hmm
  have wm : IntKind.i64.wrap (4194304 - (m : Int)) = ((4194304 - m : Nat) : Int) := by rw [wrap_i64 (by omega) (by omega)]; omega
  have wm1 : IntKind.i64.wrap ((m : Int) + 1) = ((m + 1 : Nat) : Int) := wrap_succ (by omega)
  -- the great file
  have hD1 : ∀ {D : Nat → Prop} {x y : World} {q : ShS}, Dk x D b [] (-1) false → True := fun _ => trivial
  obtain ⟨q3, w3, e3, o3, f3, n3⟩ := many16 w2 (n := 4194304 - m) (by omega)
  have d3 := d2.fr f3 (by simp)
  obtain ⟨w4, D4, e4, d4, c4⟩ := append10 d3 bigN o3.slI (manyL_zs _) o3.le (fun _ y hy hd => by have := n3 y hy; have := d2.lt y hd; omega) (by rw [manyL_len]; omega)
  rw [app_big1 (by rw [manyL_len]; omega)] at e4 d4
  obtain ⟨q5, w5, e5, o5, f5, n5⟩ := many16 w4 (n := m + 1) (by omega)
  have d5 := d4.fr f5 (by simp)
  obtain ⟨w6, D6, e6, d6, c6⟩ := append10 d5 bigN o5.slI (manyL_zs _) o5.le (fun _ y hy hd => by have := n5 y hy; have := d4.lt y hd; omega) (by rw [manyL_len]; omega)
  rw [app_bigF (by rw [manyL_len, manyL_len]; omega)] at e6 d6
  obtain ⟨q7, w7, e7, o7, f7, n7⟩ := many16 w6 (n := m) (by omega)
  have d7 := d6.fr f7 (by simp)
  obtain ⟨w8, D8, e8, d8, c8⟩ := append10 d7 bigN o7.slI (manyL_zs _) o7.le (fun _ y hy hd => by have := n7 y hy; have := d6.lt y hd; omega) (by rw [manyL_len]; omega)
  rw [app_big2 (by rw [manyL_len, manyL_len]; omega)] at e8 d8
  obtain ⟨P, hP, hPl⟩ : ∃ P, manyL (4194304 - m) ++ manyL m = P ∧ P.length = 4194304 := ⟨_, rfl, by simp [manyL_len]; omega⟩
  rw [hP] at d8
  obtain ⟨w9, e9, s9, f9, z9⟩ := conv_lit w8 [120]
  have d9 := d8.fr f9 (by simp)
  obtain ⟨w10, D10, e10, d10, c10⟩ := append10 d9 bigN s9 (by unfold Zs; decide) (Nat.le_refl _) (fun _ y hy hd => by simp [blkOf] at hy; have := d8.lt y hd; omega) (by decide)
  rw [app_bigF (by rw [hPl]; decide)] at e10 d10
  have hD : ∀ y, D1 y → W.heap.size ≤ y := m1
  have F3 : Fr [] W w3 := (Fr.mono (Fr.app F2 f3) (by have z0_ := Fr.size F2; have z1_ := Fr.size f3; intro y_ hy_ hl_; grind [blkOf]))
  obtain ⟨F4, hD4⟩ := chg_out F3 hD c4
  have F5 : Fr [] W w5 := (Fr.mono (Fr.app F4 f5) (by have z0_ := Fr.size F4; have z1_ := Fr.size f5; intro y_ hy_ hl_; grind [blkOf]))
  obtain ⟨F6, hD6⟩ := chg_out F5 hD4 c6
  have F7 : Fr [] W w7 := (Fr.mono (Fr.app F6 f7) (by have z0_ := Fr.size F6; have z1_ := Fr.size f7; intro y_ hy_ hl_; grind [blkOf]))
  obtain ⟨F8, hD8⟩ := chg_out F7 hD6 c8
  have F9 : Fr [] W w9 := (Fr.mono (Fr.app F8 f9) (by have z0_ := Fr.size F8; have z1_ := Fr.size f9; intro y_ hy_ hl_; grind [blkOf]))
  obtain ⟨F10, hD10⟩ := chg_out F9 hD8 c10
  have hS0 : FS [(bigN, (P, 0))] 1 0 := ⟨rfl, by decide, by simp [used, hPl], ⟨(P, 0), by simp [kget_cons], hPl⟩, fun e he => by simp at he; subst he; exact .inl rfl⟩
  have hu1 : 0 ≤ n1 ∧ n1 ≤ 255 := h1
  obtain ⟨N, hN⟩ : ∃ N : Nat, IntKind.i64.wrap (4056 + IntKind.i64.wrap (Int.tmod n1 80)) = (N : Int) ∧ N ≤ 5000 := by
    rw [Int.tmod_eq_emod_of_nonneg (by omega), wrap_i64 (n := n1 % 80) (by omega) (by omega), wrap_i64 (by omega) (by omega)]
    exact ⟨(4056 + n1 % 80).toNat, by omega, by omega⟩
  obtain ⟨t, w11, g11, D11, A11, m11, ht, F11, hD11, d11, hS11⟩ := loopS_countX 0 (b := g4_l21_b n1 (some ⟨b, 0, none⟩)) (n := N)
    (I := fun k s x => ∃ (D : Nat → Prop) (A : List (ByteArray × FV)) (mm : Nat), s = (false, (mm : Int), (k : Int)) ∧ Fr [] W x ∧ (∀ y, D y → W.heap.size ≤ y) ∧ Dk x D b A (-1) false ∧ FS A mm k)
    (fun k s x hk ⟨D, A, mm, hs, hF, hD, hd, hS⟩ => by
      subst hs
      obtain ⟨D', A', m', x', e, hF', hD', hd', hS'⟩ := full_round hF hD hd hS hk hN.2 hN.1
      exact ⟨_, x', e, D', A', m', rfl, hF', hD', hd', hS'⟩)
    (fun s x ⟨D, A, mm, hs, hF, hD, hd, hS⟩ => by
      subst hs
      have k0 : decide ((N : Int) < IntKind.i64.wrap (4056 + IntKind.i64.wrap (Int.tmod n1 80))) = false := by rw [hN.1]; simp
      unfold g4_l21_b
      simp only [k0, Bool.false_eq_true, if_false]) (k := 0) (s := (false, 1, 0)) (w := w10) (Nat.zero_le _) ⟨D10, _, 1, rfl, F10, hD10, d10, hS0⟩
  obtain ⟨w12, e12, f12⟩ := size17 d11 bigN
  obtain ⟨v, hv, hvl⟩ := hS11.big
  have hsz : sizeA A11 false bigN = (4194304, v.2, 0) := by unfold sizeA; rw [if_neg (by decide), hv]; simp only [hvl]
  rw [hsz] at e12
  obtain ⟨q13, w13, e13, l13, f13⟩ := namesN (d11.fr f12 (by simp))
  refine ⟨w13, g4_call ?_, (Fr.mono (Fr.app (Fr.app F11 f12) f13) (by have z0_ := Fr.size F11; have z1_ := Fr.size f12; have z2_ := Fr.size f13; intro y_ hy_ hl_; grind [blkOf]))⟩
  have hlen := hS11.len
  have z0 : ((0 : Int) != 0) = false := rfl
  have z1 : ((3 : Int) != 3) = false := rfl
  have z2 : ((0 : Int) == 0) = true := rfl
  have z3 : (((4194304 : Nat) : Int) == 4194304) = true := by decide
  have hq : ((q13.2.1 : Int) == (m11 : Int)) = true := by simp; omega
  have e4' : callF Try.prog 10 #[.pointer (some ⟨b, 0, none⟩), .string (⟨#[98, 105, 103]⟩ : ByteArray), .slice q3.1 q3.2.1 q3.2.2] w3 = some (.int .i64 0, w4) := e4
  have e6' : callF Try.prog 10 #[.pointer (some ⟨b, 0, none⟩), .string (⟨#[98, 105, 103]⟩ : ByteArray), .slice q5.1 q5.2.1 q5.2.2] w5 = some (.int .i64 3, w6) := e6
  have e8' : callF Try.prog 10 #[.pointer (some ⟨b, 0, none⟩), .string (⟨#[98, 105, 103]⟩ : ByteArray), .slice q7.1 q7.2.1 q7.2.2] w7 = some (.int .i64 0, w8) := e8
  have e9' : semR Try.prog (convert 28 28 (.slice (some ⟨w8.heap.size, 0, none⟩) 1 1)) (w8.alloc (.cells #[.int .u8 120] 5)) = some (.slice (some ⟨w8.heap.size, 0, none⟩) 1 1, w9) := e9
  have e10' : callF Try.prog 10 #[.pointer (some ⟨b, 0, none⟩), .string (⟨#[98, 105, 103]⟩ : ByteArray), .slice (some ⟨w8.heap.size, 0, none⟩) 1 1] w9 = some (.int .i64 3, w10) := e10
  have e12' : callF Try.prog 17 #[.pointer (some ⟨b, 0, none⟩), .string (⟨#[98, 105, 103]⟩ : ByteArray)] w11 = some (.tuple #[.int .i64 ((4194304 : Nat) : Int), .int .i64 (v.2 : Int), .int .i64 0], w12) := e12
  unfold g4
  simp only [e1, e2, wt, hm, wm, e3, e4', z0, wm1, e5, e6', z1, e7, e8', e9', e10', obs, asP_pointer, asB_bool, asI_int, asS_string, asSl_slice, asM_map, asTup0, asTup1, asTup2, asTup3, asTup4, asTup5, asTup6, asTup7, asTup8, asTup9, asAgg2, asAgg3, asAgg4, asAgg5, asAgg6, asAgg7, asAgg8, asAgg9, asAgg12, getD0, getD1, getD2, getD3, getD4, getD5, getD6, getD7, getD8, getD9, getD10, getD11, getD12, getD13, getD14, getD15, getD16, getD17, getD18, getD19, Bool.not_true, Bool.not_false, Bool.false_eq_true, Bool.true_eq_false, ↓reduceIte, decide_true, decide_false, Option.isNone_some, Option.isNone_none, Option.isSome_some, Option.isSome_none, beq_self_eq_true, bne_self_eq_false, Bool.and_true, Bool.true_and, Bool.and_false, Bool.false_and, not_true_eq_false, not_false_eq_true]
  rw [g4_l21_x0_of g11]
  unfold g4_l21_x0
  simp only [e12', z2, z3, e13, ht, obs, asP_pointer, asB_bool, asI_int, asS_string, asSl_slice, asM_map, asTup0, asTup1, asTup2, asTup3, asTup4, asTup5, asTup6, asTup7, asTup8, asTup9, asAgg2, asAgg3, asAgg4, asAgg5, asAgg6, asAgg7, asAgg8, asAgg9, asAgg12, getD0, getD1, getD2, getD3, getD4, getD5, getD6, getD7, getD8, getD9, getD10, getD11, getD12, getD13, getD14, getD15, getD16, getD17, getD18, getD19, Bool.not_true, Bool.not_false, Bool.false_eq_true, Bool.true_eq_false, ↓reduceIte, decide_true, decide_false, Option.isNone_some, Option.isNone_none, Option.isSome_some, Option.isSome_none, beq_self_eq_true, bne_self_eq_false, Bool.and_true, Bool.true_and, Bool.and_false, Bool.false_and, not_true_eq_false, not_false_eq_true]
  rw [hq]
end Go.Proofs.Ytkmidlhnlnolnaa
