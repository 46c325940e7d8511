/-
  DiskLasts: lemmas on what Go functions of this seat come to (for whatever arguments, as each says). No condition but those that stand in each lemma.
-/
import Derived.Test.YtkmidlhnlnolnaaRs
import Derived.Test.YtkmidlhnlnolnaaDiskRf
namespace Go.Proofs.Ytkmidlhnlnolnaa
open Go Go.Ev
set_option maxRecDepth 100000
set_option linter.unusedVariables false
set_option linter.unusedSimpArgs false

abbrev OT : Ty := .cons (.int .i64) (.cons .str (.cons .str (.cons (.slice (.int .u8)) (.cons (.int .i64) .nil))))

theorem mem_le_sum2 : ∀ {l : List Nat} {a : Nat}, a ∈ l → a ≤ l.sum
  | [], a, h => by simp at h
  | b :: l, a, h => by
    rcases List.mem_cons.mp h with rfl | h
    · simp
    · have := mem_le_sum2 h; simp; omega

/-- one call of the script -/
theorem op_at {W w : World} {x0 : (Ty.slice OT).Val} (h0 : (Ty.slice OT).At W [.slice x0.1.1 x0.1.2.1 x0.1.2.2] x0) (hb : Ty.Fits (.slice OT) x0) (hF : Fr [] W w) {k : Nat} (hk : k < x0.2.length) :
    ∃ (a : Addr) (kd N : Int) (n t : ByteArray) (q : ShS) (p : List Int), idxA x0.1.1 x0.1.2.1 5 (k : Int) = some a ∧ ldN w a 0 5 = some [.int .i64 kd, .string n, .string t, .slice q.1 q.2.1 q.2.2, .int .i64 N] ∧ Sl8 W q p ∧ Zs p ∧ q.2.1 ≤ q.2.2 ∧ p.length ≤ 140737488351232 ∧ (-9223372036854775808 ≤ N ∧ N ≤ 9223372036854775807) := by
  have hold : Old W w := (Old.refl W).fr hF (by simp)
  obtain ⟨a, cs, i1, g1, g2, g3⟩ := slice_get (at_old hold _ _ _ h0) hk
  obtain ⟨a', cs', i1', g1', g2', g3'⟩ := slice_get h0 hk
  have hbk : Ty.Fits OT x0.2[k] := hb.2 _ (List.getElem_mem hk)
  obtain ⟨y, hy⟩ : ∃ y, x0.2[k] = y := ⟨_, rfl⟩
  rw [hy] at g3 g3' hbk
  obtain ⟨c0, c1, c2, ⟨q, vs⟩, c4, _⟩ := y
  obtain ⟨e1, d1, rfl, _, ⟨rfl, h1⟩, e2, d2, rfl, _, ⟨rfl, h2⟩, e3, d3, rfl, _, ⟨rfl, h3⟩, e4, d4, rfl, _, hs, e5, d5, rfl, _, ⟨rfl, h5⟩, rfl⟩ := g3
  obtain ⟨e1', d1', rfl, _, ⟨rfl, _⟩, e2', d2', rfl, _, ⟨rfl, _⟩, e3', d3', rfl, _, ⟨rfl, _⟩, e4', d4', rfl, _, hs', e5', d5', rfl, _, ⟨rfl, _⟩, rfl⟩ := g3'
  obtain ⟨psl, prg, _⟩ := slI_of_at (x := (q, vs)) ⟨rfl, hs'.2⟩
  have hcap := hs.2.2.1
  have hlen : vs.length ≤ 140737488351232 := Fits.u8 hbk.2.2.2.1
  have hs6 := hs.1
  simp only at hs6
  subst hs6
  exact ⟨a, c0, c4, c1, c2, q, vs, i1, g2.ldN (n := 5) rfl, psl, fun z hz => by have := prg z hz; exact ⟨this.1, by have h2 : z ≤ 255 := this.2; omega⟩, hcap, hlen, h5⟩

/-- the call as the law's loop holds it -/
theorem newOp (x : World) (kd N : Int) (n t : ByteArray) (q : ShS) : ∃ x', stL (x.alloc (.cells #[.int .i64 0, .string (⟨#[]⟩ : ByteArray), .string (⟨#[]⟩ : ByteArray), .slice none 0 0, .int .i64 0] 47)) ⟨x.heap.size, 0, none⟩ [.int .i64 kd, .string n, .string t, .slice q.1 q.2.1 q.2.2, .int .i64 N] 0 = some x' ∧
    ldN x' ⟨x.heap.size, 0, none⟩ 0 5 = some [.int .i64 kd, .string n, .string t, .slice q.1 q.2.1 q.2.2, .int .i64 N] ∧ Fr [] x x' := by
  have b : Blk (x.alloc (.cells #[.int .i64 0, .string (⟨#[]⟩ : ByteArray), .string (⟨#[]⟩ : ByteArray), .slice none 0 0, .int .i64 0] 47)) x.heap.size [.int .i64 0, .string (⟨#[]⟩ : ByteArray), .string (⟨#[]⟩ : ByteArray), .slice none 0 0, .int .i64 0] 47 := Blk.new x _ 47
  have f0 : Fr [] x (x.alloc (.cells #[.int .i64 0, .string (⟨#[]⟩ : ByteArray), .string (⟨#[]⟩ : ByteArray), .slice none 0 0, .int .i64 0] 47)) := Fr.alloc _
  obtain ⟨x', h1, h2, h3⟩ := b.stL (vs := [.int .i64 kd, .string n, .string t, .slice q.1 q.2.1 q.2.2, .int .i64 N]) rfl (by
    intro u hu
    simp only [List.mem_cons, List.not_mem_nil, or_false] at hu
    rcases hu with rfl | rfl | rfl | rfl | rfl <;> rfl)
  exact ⟨x', h1, h2.ldN (n := 5) rfl, (f0.app h3).mono (by intro y hy hl; simp at hy; omega)⟩

/-- a crash changes nothing of files that last -/
theorem crash_again {A : List (ByteArray × FV)} (h : ∀ p ∈ A, p.2.2 = p.2.1.length) (again : Int) : crashA again A = A := by
  unfold crashA
  conv => rhs; rw [← List.map_id A]
  apply List.map_congr_left
  intro p hp
  obtain ⟨n, d, s⟩ := p
  have hs : s = d.length := h _ hp
  subst hs
  have hL : leftN again (d, d.length) = d.length := by
    unfold leftN
    simp only
    have : d.length - d.length + 1 = 1 := by omega
    rw [this, Nat.mod_one]; omega
  unfold crashV
  rw [hL]
  simp

theorem crash_lasts {A : List (ByteArray × FV)} (keep : Int) (h : ∀ p ∈ A, p.2.2 ≤ p.2.1.length) : ∀ p ∈ crashA keep A, p.2.2 = p.2.1.length := by
  intro p hp
  unfold crashA at hp
  obtain ⟨e, he, rfl⟩ := List.mem_map.mp hp
  have := leftN_le keep (v := e.2) (h e he)
  simp only [crashV, List.length_take]
  omega

/-- a file of the document's, behind the crash -/
theorem last_round {W x : World} {D E : Nat → Prop} {b c : Nat} {A1 : List (ByteArray × FV)} {fe : Int} {de : Bool} {qf : ShS} {es : List RE} (hF : Fr [] W x) (hD : Dk x D b A1 (-1) false) (hE : RD x E c qf es fe de) (ap : ∀ y, D y → ¬ E y) (dW : ∀ y, D y → W.heap.size ≤ y)
    (hl : ∀ p ∈ A1, p.2.2 = p.2.1.length) {k : Nat} (hk : k < es.length) {L : Nat} (hL : es[k].syn ≤ L ∧ L ≤ es[k].data.length) (hm : (es[k].name, (es[k].data.take L, L)) ∈ A1) {again : Int} (hag : -9223372036854775808 ≤ again ∧ again < 9223372036854775808) (v : Bool) :
    ∃ x', g6_l73_b qf (some ⟨b, 0, none⟩) again (v, (k : Int)) x = some (.normal, (v, ((k + 1 : Nat) : Int)), x') ∧ Fr [] W x' ∧ Dk x' D b A1 (-1) false ∧ RD x' E c qf es fe de := by
  have hfl := hE.flen
  have hle := hE.le
  have hk1 := hD.kone
  have hg : kget A1 es[k].name = some (es[k].data.take L, L) := kget_mem hk1 hm
  obtain ⟨g, off, hq, hix, hld, _, _⟩ := re_at hE.own hk
  simp only [RE.cs] at hld
  obtain ⟨x1, s1, b1, f1⟩ := newRE x es[k]
  have F1 : Fr [] W x1 := (Fr.mono (Fr.app hF f1) (by have z0_ := Fr.size hF; have z1_ := Fr.size f1; intro y_ hy_ hl_; grind [blkOf]))
  have c0 : x1.cell? ⟨x.heap.size, 0, none⟩ = some (.string es[k].name) := b1.cell 0
  have hD1 := hD.fr f1 (by simp)
  obtain ⟨q2, x2, e2, o2, f2, n2, _⟩ := read15 hD1 es[k].name
  have hr : readA A1 false es[k].name = (es[k].data.take L, 0) := by unfold readA; rw [if_neg (by decide), hg]
  rw [hr] at e2 o2
  have b2 := b1.fr f2 (by simp)
  have c02 : x2.cell? ⟨x.heap.size, 0, none⟩ = some (.string es[k].name) := b2.cell 0
  have hD2 := hD1.fr f2 (by simp)
  obtain ⟨x3, e3, f3⟩ := size17 hD2 es[k].name
  have hs : sizeA A1 false es[k].name = ((es[k].data.take L).length, L, 0) := by unfold sizeA; rw [if_neg (by decide), hg]
  rw [hs] at e3
  have b3 := b2.fr f3 (by simp)
  have c31 : x3.cell? ⟨x.heap.size, 1, none⟩ = some (.slice es[k].q.1 es[k].q.2.1 es[k].q.2.2) := b3.cell 1
  have c32 : x3.cell? ⟨x.heap.size, 2, none⟩ = some (.int .i64 (es[k].syn : Int)) := b3.cell 2
  have F13 : Fr [] x x3 := (Fr.mono (Fr.app (Fr.app f1 f2) f3) (by have z0_ := Fr.size f1; have z1_ := Fr.size f2; have z2_ := Fr.size f3; intro y_ hy_ hl_; grind [blkOf]))
  have hE3 := hE.fr F13 (by simp)
  have ok3 := hE3.ok _ (List.getElem_mem hk)
  have okl := ok3.own.len
  simp at okl
  have o2l := o2.len
  simp at o2l
  have hq2 : q2.2.1 = L := by omega
  obtain ⟨qs, es1, hqs, _⟩ := slc_hi ok3.own.slI (j := L) hL.2 ok3.own.le
  have o3 := o2.fr f3 (by simp)
  have hdl : es[k].data.length ≤ 4194304 := by
    have := used_ge (A := es.map RE.ab) (k := k) (by simpa using hk)
    rw [List.getElem_map] at this
    have e3 : (RE.ab es[k]).2.1.length = es[k].data.length := rfl
    have := hE.us
    omega
  obtain ⟨x4, e4, f4⟩ := same30 o3.slI hqs (by rw [List.length_take]; omega)
  have hD3 := hD2.fr f3 (by simp)
  have hD4 := hD3.fr f4 (by simp)
  obtain ⟨x5, e5, hD5, C5⟩ := crash14 hD4 hag
  rw [crash_again hl] at hD5
  obtain ⟨S5, fS5, hS5⟩ := C5.fr
  have b4 := b3.fr f4 (by simp)
  have hxb : ∀ y ∈ S5, y < x.heap.size := fun y hy => hD.lt y (hS5 y hy)
  have b5 := b4.fr fS5 (fun hm => by have := hxb _ hm; omega)
  have c05 : x5.cell? ⟨x.heap.size, 0, none⟩ = some (.string es[k].name) := b5.cell 0
  obtain ⟨q6, x6, e6, o6, f6, n6, _⟩ := read15 hD5 es[k].name
  rw [hr] at e6 o6
  have z1 := f1.size
  have o5 := (o3.fr f4 (by simp)).fr fS5 (fun y hy hm => by have := n2 y hy; have := hxb y hm; omega)
  obtain ⟨x7, e7, f7⟩ := same30 ((o5.fr f6 (by simp)).slI) o6.slI (by rw [List.length_take]; omega)
  have F4 : Fr [] W x4 := (Fr.mono (Fr.app (Fr.app (Fr.app F1 f2) f3) f4) (by have z0_ := Fr.size F1; have z1_ := Fr.size f2; have z2_ := Fr.size f3; have z3_ := Fr.size f4; intro y_ hy_ hl_; grind [blkOf]))
  have F5 : Fr [] W x5 := (F4.app fS5).mono (by intro y hy hlt; simp at hy; have := dW y (hS5 y hy); omega)
  have F7 : Fr [] W x7 := (Fr.mono (Fr.app (Fr.app F5 f6) f7) (by have z0_ := Fr.size F5; have z1_ := Fr.size f6; have z2_ := Fr.size f7; intro y_ hy_ hl_; grind [blkOf]))
  have f67 : Fr [] x5 x7 := (Fr.mono (Fr.app f6 f7) (by have z0_ := Fr.size f6; have z1_ := Fr.size f7; intro y_ hy_ hl_; grind [blkOf]))
  have hE5 := ((hE3.fr f4 (by simp)).fr fS5 (fun y hy _ he => ap y (hS5 y hy) he)).fr f67 (by simp)
  refine ⟨x7, ?_, F7, hD5.fr f67 (by simp), hE5⟩
  have k0 : decide ((k : Int) < (qf.2.1 : Int)) = true := by simp; omega
  have kw := wrap_succ (n := k) (by omega)
  have y0 : ((0 : Int) != 0) = false := rfl
  have y1 : decide ((q2.2.1 : Int) < (es[k].syn : Int)) = false := by simp; omega
  have y2 : decide ((q2.2.1 : Int) > (es[k].q.2.1 : Int)) = false := by simp; omega
  have y3 : ((((es[k].data.take L).length : Nat) : Int) != (L : Int)) = false := by rw [List.length_take, Nat.min_eq_left hL.2]; simp
  have y4 : ((((es[k].data.take L).length : Nat) : Int) != (q2.2.1 : Int)) = false := by rw [List.length_take, Nat.min_eq_left hL.2, hq2]; simp
  have es1' : slc es[k].q.1 es[k].q.2.1 es[k].q.2.2 1 none (some (q2.2.1 : Int)) none = some qs := by rw [hq2]; exact es1
  unfold g6_l73_b
  simp only [k0, hix, hld, s1, c0, e2, c02, e3, y0, addr_add, Nat.zero_add, c32, y1, c31, y2, es1', e4, y3, y4, e5, c05, e6, e7, kw, obs, asP_pointer, asB_bool, asI_int, asS_string, asSl_slice, asM_map, asTup0, asTup1, asTup2, asTup3, asTup4, asTup5, asTup6, asTup7, asTup8, asTup9, asAgg2, asAgg3, asAgg4, asAgg5, asAgg6, asAgg7, asAgg8, asAgg9, asAgg12, getD0, getD1, getD2, getD3, getD4, getD5, getD6, getD7, getD8, getD9, getD10, getD11, getD12, getD13, getD14, getD15, getD16, getD17, getD18, getD19, Bool.not_true, Bool.not_false, Bool.false_eq_true, Bool.true_eq_false, ↓reduceIte, decide_true, decide_false, Option.isNone_some, Option.isNone_none, Option.isSome_some, Option.isSome_none, beq_self_eq_true, bne_self_eq_false, Bool.and_true, Bool.true_and, Bool.and_false, Bool.false_and, not_true_eq_false, not_false_eq_true]

theorem DiskLasts_main0 (W : World) (x0 : (Ty.slice OT).Val) (h0 : (Ty.slice OT).At W [.slice x0.1.1 x0.1.2.1 x0.1.2.2] x0) (n1 : Int) (h1 : -9223372036854775808 ≤ n1 ∧ n1 ≤ 9223372036854775807) (n2 : Int) (h2 : -9223372036854775808 ≤ n2 ∧ n2 ≤ 9223372036854775807) (hb : Ty.Fits (.slice OT) x0) :
    ∃ w', callF Try.prog 6 #[.slice x0.1.1 x0.1.2.1 x0.1.2.2, .int .i64 n1, .int .i64 n2] W = some (.bool true, w') ∧ Fr [] W w' := by
  have hlen := h0.2.1
  have hcnt : x0.2.length * 72 ≤ 140737488351232 := Fits.sl hb
  obtain ⟨w1, D1, e1, hD1, f1, m1⟩ := new8 W
  obtain ⟨b, hbb⟩ : ∃ b, W.heap.size + 1 = b := ⟨_, rfl⟩
  rw [hbb] at e1 hD1
  have f2 : Fr [] w1 (w1.alloc (.cells #[.slice none 0 0, .int .i64 (-1), .bool false] 51)) := Fr.alloc _
  have b2 : Blk (w1.alloc (.cells #[.slice none 0 0, .int .i64 (-1), .bool false] 51)) w1.heap.size [.slice none 0 0, .int .i64 (-1), .bool false] 51 := Blk.new w1 [.slice none 0 0, .int .i64 (-1), .bool false] 51
  have e2 : callF Try.prog 21 #[] w1 = some (.pointer (some ⟨w1.heap.size, 0, none⟩), w1.alloc (.cells #[.slice none 0 0, .int .i64 (-1), .bool false] 51)) := g21_call rfl
  obtain ⟨w2, hw2⟩ : ∃ w2, w1.alloc (.cells #[.slice none 0 0, .int .i64 (-1), .bool false] 51) = w2 := ⟨_, rfl⟩
  obtain ⟨c, hcc⟩ : ∃ c, w1.heap.size = c := ⟨_, rfl⟩
  rw [hw2] at f2 b2 e2
  rw [hcc] at b2 e2
  have zf1 := f1.size
  have hD2 := hD1.fr f2 (by simp)
  have hE2 : RD w2 (fun y => y = c) c (none, 0, 0) [] (-1) false := ⟨b2, Own.nil w2 53 3, by simp, List.Pairwise.nil, rfl, by simp [blkOf], fun y hy => by subst hy; exact b2.lt, by simp [used], by simp⟩
  obtain ⟨w3, e3, f3⟩ := awake9 (w := w2)
  have F2 : Fr [] W w2 := (Fr.mono (Fr.app f1 f2) (by have z0_ := Fr.size f1; have z1_ := Fr.size f2; intro y_ hy_ hl_; grind [blkOf]))
  have F3 : Fr [] W w3 := (Fr.mono (Fr.app F2 f3) (by have z0_ := Fr.size F2; have z1_ := Fr.size f3; intro y_ hy_ hl_; grind [blkOf]))
  have S3 : Sim W w3 b c [] (-1) false := ⟨⟨D1, _, _, _, hD2.fr f3 (by simp), hE2.fr f3 (by simp), List.Perm.refl _, fun y hy he => by have := hD1.lt y hy; omega, m1, fun y hy => by subst hy; omega⟩, F3⟩
  -- the script
  obtain ⟨t, w4, g4, ht, A, fuse, dead, S4⟩ := loopS_countX 0 (b := g6_l8_b x0.1 (some ⟨b, 0, none⟩) (some ⟨c, 0, none⟩) n1 n2) (n := x0.2.length)
    (I := fun k s x => s = (k : Int) ∧ ∃ A fuse dead, Sim W x b c A fuse dead)
    (fun k s x hk ⟨hs, A, fuse, dead, hS⟩ => by
      subst hs
      obtain ⟨a, kd, N, n, t, q, p, i1, ld, hp, hz, hc, hpl, hN⟩ := op_at h0 hb hS.fr hk
      obtain ⟨x1, s1, l1, f1⟩ := newOp x kd N n t q
      obtain ⟨v, A', fuse', dead', x2, e, hS2⟩ := do22 (hS.aside f1) kd n t hp hz hc (by omega) hN
      have k0 : decide ((k : Int) < (x0.1.2.1 : Int)) = true := by simp; omega
      have kw := wrap_succ (n := k) (by omega)
      refine ⟨_, x2, ?_, rfl, A', fuse', dead', hS2⟩
      unfold g6_l8_b
      simp only [k0, i1, ld, s1, l1, e, kw, obs, asP_pointer, asB_bool, asI_int, asS_string, asSl_slice, asM_map, asTup0, asTup1, asTup2, asTup3, asTup4, asTup5, asTup6, asTup7, asTup8, asTup9, asAgg2, asAgg3, asAgg4, asAgg5, asAgg6, asAgg7, asAgg8, asAgg9, asAgg12, getD0, getD1, getD2, getD3, getD4, getD5, getD6, getD7, getD8, getD9, getD10, getD11, getD12, getD13, getD14, getD15, getD16, getD17, getD18, getD19, Bool.not_true, Bool.not_false, Bool.false_eq_true, Bool.true_eq_false, ↓reduceIte, decide_true, decide_false, Option.isNone_some, Option.isNone_none, Option.isSome_some, Option.isSome_none, beq_self_eq_true, bne_self_eq_false, Bool.and_true, Bool.true_and, Bool.and_false, Bool.false_and, not_true_eq_false, not_false_eq_true])
    (fun s x ⟨hs, _⟩ => by
      subst hs
      have k0 : decide ((x0.2.length : Int) < (x0.1.2.1 : Int)) = false := by simp; omega
      unfold g6_l8_b
      simp only [k0, Bool.false_eq_true, if_false]) (k := 0) (s := 0) (w := w3) (Nat.zero_le _) ⟨rfl, _, _, _, S3⟩
  obtain ⟨⟨D, E, qf, es, hD, hE, hperm, ap, dW, eW⟩, F4⟩ := S4
  -- the crash
  obtain ⟨w5, e5, hD5, C5⟩ := crash14 hD (keep := n1) (by omega)
  have hE5 := hE.after C5 ap
  obtain ⟨S5, fS5, hS5⟩ := C5.fr
  have F5 : Fr [] W w5 := (F4.app fS5).mono (by intro y hy hlt; simp at hy; have := dW y (hS5 y hy); omega)
  have fd := Fr.drew [] w5
  have F5d : Fr [] W w5.drew := (Fr.mono (Fr.app F5 fd) (by have z0_ := Fr.size F5; have z1_ := Fr.size fd; intro y_ hy_ hl_; grind [blkOf]))
  have hD5d := hD5.fr fd (by simp)
  have hE5d := hE5.fr fd (by simp)
  have e6 := dead12 hD5d
  obtain ⟨q7, w7, e7, l7, f7⟩ := namesN hD5d
  have F7 : Fr [] W w7 := (Fr.mono (Fr.app F5d f7) (by have z0_ := Fr.size F5d; have z1_ := Fr.size f7; intro y_ hy_ hl_; grind [blkOf]))
  have hD7 := hD5d.fr f7 (by simp)
  have hE7 := hE5d.fr f7 (by simp)
  have hAl : (crashA n1 A).length = es.length := by
    have := hperm.length_eq
    simp [crashA] at this ⊢; omega
  have hfl := hE7.flen
  have hle := hE7.le
  have hlast := crash_lasts n1 hD.syn
  -- the files
  obtain ⟨t9, w9, g9, ht9, F9, hD9, hE9⟩ := loopS_countX 2 (b := g6_l73_b qf (some ⟨b, 0, none⟩) n2) (n := es.length)
    (I := fun k s x => s = (false, (k : Int)) ∧ Fr [] W x ∧ Dk x D b (crashA n1 A) (-1) false ∧ RD x E c qf es fuse dead)
    (fun k s x hk ⟨hs, hF, hDx, hEx⟩ => by
      subst hs
      have hsyn := hD.syn es[k].ab (hperm.mem_iff.mpr (List.mem_map.mpr ⟨_, List.getElem_mem hk, rfl⟩))
      have hLL := leftN_le n1 (v := (es[k].data, es[k].syn)) hsyn
      have hmem : (es[k].name, (es[k].data.take (leftN n1 (es[k].data, es[k].syn)), leftN n1 (es[k].data, es[k].syn))) ∈ crashA n1 A := by
        unfold crashA
        exact List.mem_map.mpr ⟨es[k].ab, hperm.mem_iff.mpr (List.mem_map.mpr ⟨_, List.getElem_mem hk, rfl⟩), rfl⟩
      obtain ⟨x', e, hF', hD', hE'⟩ := last_round hF hDx hEx ap dW hlast hk hLL hmem (again := n2) (by omega) false
      exact ⟨_, x', e, rfl, hF', hD', hE'⟩)
    (fun s x ⟨hs, _⟩ => by
      subst hs
      have k0 : decide ((es.length : Int) < (qf.2.1 : Int)) = false := by simp; omega
      unfold g6_l73_b
      simp only [k0, Bool.false_eq_true, if_false]) (k := 0) (s := (false, 0)) (w := w7) (Nat.zero_le _) ⟨rfl, F7, hD7, hE7⟩
  refine ⟨w9, g6_call ?_, F9⟩
  have c5 := hE5d.c0
  have c7 := hE7.c0
  have hq : ((q7.2.1 : Int) != (qf.2.1 : Int)) = false := by simp; omega
  have J66 : g6_j66 (some ⟨c, 0, none⟩) n2 (some ⟨b, 0, none⟩) false w7 = some (.bool true, w9) := by
    unfold g6_j66
    simp only [c7, obs, asP_pointer, asB_bool, asI_int, asS_string, asSl_slice, asM_map, asTup0, asTup1, asTup2, asTup3, asTup4, asTup5, asTup6, asTup7, asTup8, asTup9, asAgg2, asAgg3, asAgg4, asAgg5, asAgg6, asAgg7, asAgg8, asAgg9, asAgg12, getD0, getD1, getD2, getD3, getD4, getD5, getD6, getD7, getD8, getD9, getD10, getD11, getD12, getD13, getD14, getD15, getD16, getD17, getD18, getD19, Bool.not_true, Bool.not_false, Bool.false_eq_true, Bool.true_eq_false, ↓reduceIte, decide_true, decide_false, Option.isNone_some, Option.isNone_none, Option.isSome_some, Option.isSome_none, beq_self_eq_true, bne_self_eq_false, Bool.and_true, Bool.true_and, Bool.and_false, Bool.false_and, not_true_eq_false, not_false_eq_true]
    rw [g6_l73_x2_of g9, g6_l73_x2]
  have J59 : ∀ t30 r32, g6_j59b n2 (some ⟨b, 0, none⟩) (some ⟨c, 0, none⟩) t30 r32 (q7.2.1 : Int) (qf.2.1 : Int) w7 = some (.bool true, w9) := by
    intro t30 r32
    unfold g6_j59b
    rw [hq]
    exact J66
  have tail : ∀ t, g6_l8_x0 (some ⟨b, 0, none⟩) n1 n2 (some ⟨c, 0, none⟩) t w4 = some (.bool true, w9) := by
    intro t
    unfold g6_l8_x0
    simp only [e5, e6, e7, c7, c5, J59, ite_self, obs, asP_pointer, asB_bool, asI_int, asS_string, asSl_slice, asM_map, asTup0, asTup1, asTup2, asTup3, asTup4, asTup5, asTup6, asTup7, asTup8, asTup9, asAgg2, asAgg3, asAgg4, asAgg5, asAgg6, asAgg7, asAgg8, asAgg9, asAgg12, getD0, getD1, getD2, getD3, getD4, getD5, getD6, getD7, getD8, getD9, getD10, getD11, getD12, getD13, getD14, getD15, getD16, getD17, getD18, getD19, Bool.not_true, Bool.not_false, Bool.false_eq_true, Bool.true_eq_false, ↓reduceIte, decide_true, decide_false, Option.isNone_some, Option.isNone_none, Option.isSome_some, Option.isSome_none, beq_self_eq_true, bne_self_eq_false, Bool.and_true, Bool.true_and, Bool.and_false, Bool.false_and, not_true_eq_false, not_false_eq_true]
  unfold g6
  simp only [e1, e2, e3, obs, asP_pointer, asB_bool, asI_int, asS_string, asSl_slice, asM_map, asTup0, asTup1, asTup2, asTup3, asTup4, asTup5, asTup6, asTup7, asTup8, asTup9, asAgg2, asAgg3, asAgg4, asAgg5, asAgg6, asAgg7, asAgg8, asAgg9, asAgg12, getD0, getD1, getD2, getD3, getD4, getD5, getD6, getD7, getD8, getD9, getD10, getD11, getD12, getD13, getD14, getD15, getD16, getD17, getD18, getD19, Bool.not_true, Bool.not_false, Bool.false_eq_true, Bool.true_eq_false, ↓reduceIte, decide_true, decide_false, Option.isNone_some, Option.isNone_none, Option.isSome_some, Option.isSome_none, beq_self_eq_true, bne_self_eq_false, Bool.and_true, Bool.true_and, Bool.and_false, Bool.false_and, not_true_eq_false, not_false_eq_true]
  rw [g6_l8_x0_of g4]
  exact tail _

theorem DiskLasts_main (W : World) (x0 : (Ty.slice (.cons (.int .i64) (.cons .str (.cons .str (.cons (.slice (.int .u8)) (.cons (.int .i64) .nil)))))).Val) (h0 : (Ty.slice (.cons (.int .i64) (.cons .str (.cons .str (.cons (.slice (.int .u8)) (.cons (.int .i64) .nil)))))).At W [.slice x0.1.1 x0.1.2.1 x0.1.2.2] x0) (n1 : Int) (h1 : IntKind.i64.min ≤ n1 ∧ n1 ≤ IntKind.i64.max) (n2 : Int) (h2 : IntKind.i64.min ≤ n2 ∧ n2 ≤ IntKind.i64.max) (hs0 : Ty.Fits (.slice (.cons (.int .i64) (.cons .str (.cons .str (.cons (.slice (.int .u8)) (.cons (.int .i64) .nil)))))) x0) :
    ∃ w', callF Try.prog 6 #[.slice x0.1.1 x0.1.2.1 x0.1.2.2, .int .i64 n1, .int .i64 n2] W = some (.bool true, w') ∧ Fr [] W w' :=
  DiskLasts_main0 W x0 h0 n1 h1 n2 h2 hs0
end Go.Proofs.Ytkmidlhnlnolnaa
