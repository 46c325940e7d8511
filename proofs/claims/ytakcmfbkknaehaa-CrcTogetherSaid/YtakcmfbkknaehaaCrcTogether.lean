/-
  CrcTogether: lemmas on what Go functions of this seat come to (for whatever arguments, as each says). No condition but those that stand in each lemma.
-/
import Derived.Test.YtakcmfbkknaehaaRs
import Derived.Test.YtakcmfbkknaehaaCrcH
namespace Go.Proofs.Ytakcmfbkknaehaa
open Go Go.Ev Go.Crc
set_option maxRecDepth 100000
set_option linter.unusedVariables false
set_option linter.unusedSimpArgs false

theorem wrap8_range (n : Int) : 0 ≤ IntKind.u8.wrap n ∧ IntKind.u8.wrap n < 256 := by
  have e : IntKind.u8.wrap n = n % 256 := by simp [IntKind.wrap, IntKind.bits, IntKind.signed]
  rw [e]; omega

theorem upd_xor3 (a b c : BitVec 32) (x y z : BitVec 8) : upd (a ^^^ b ^^^ c) (x ^^^ y ^^^ z) = upd a x ^^^ upd b y ^^^ upd c z := by
  unfold upd
  rw [← stepN_xor, ← stepN_xor]
  congr 1
  have : (x ^^^ y ^^^ z).setWidth 32 = x.setWidth 32 ^^^ y.setWidth 32 ^^^ z.setWidth 32 := by
    apply BitVec.eq_of_getLsbD_eq
    intro i hi
    simp only [BitVec.getLsbD_setWidth, BitVec.getLsbD_xor]
    cases x.getLsbD i <;> cases y.getLsbD i <;> cases z.getLsbD i <;> simp
  rw [this]
  ac_rfl

theorem run_xor3 {A B C D : List Int} (hb : B.length = A.length) (hc : C.length = A.length) (hd : D.length = A.length)
    (h : ∀ i (hi : i < A.length), BitVec.ofInt 8 D[i] = BitVec.ofInt 8 A[i] ^^^ BitVec.ofInt 8 B[i] ^^^ BitVec.ofInt 8 C[i]) (a b c : BitVec 32) :
    ∀ k, k ≤ A.length → run (a ^^^ b ^^^ c) (D.take k) = run a (A.take k) ^^^ run b (B.take k) ^^^ run c (C.take k)
  | 0, _ => by simp [run]
  | k + 1, hk => by
    rw [run_step (by omega), run_step (by omega), run_step (by omega), run_step (by omega), run_xor3 hb hc hd h a b c k (by omega), h k (by omega), upd_xor3]

theorem more_xor3 {A B C D : List Int} (hb : B.length = A.length) (hc : C.length = A.length) (hd : D.length = A.length)
    (h : ∀ i (hi : i < A.length), BitVec.ofInt 8 D[i] = BitVec.ofInt 8 A[i] ^^^ BitVec.ofInt 8 B[i] ^^^ BitVec.ofInt 8 C[i]) :
    IntKind.u32.wrap (((BitVec.ofInt 32 (IntKind.u32.wrap (((BitVec.ofInt 32 (more 0 A) ^^^ BitVec.ofInt 32 (more 0 B)).toNat : Nat) : Int)) ^^^ BitVec.ofInt 32 (more 0 C)).toNat : Nat) : Int) = more 0 D := by
  have := run_xor3 hb hc hd h (~~~ (BitVec.ofInt 32 0)) (~~~ (BitVec.ofInt 32 0)) (~~~ (BitVec.ofInt 32 0)) A.length (Nat.le_refl _)
  rw [List.take_of_length_le (Nat.le_of_eq hd), List.take_of_length_le (Nat.le_of_eq hb), List.take_of_length_le (Nat.le_of_eq hc), List.take_length] at this
  have e0 : (~~~ (BitVec.ofInt 32 0) ^^^ ~~~ (BitVec.ofInt 32 0) ^^^ ~~~ (BitVec.ofInt 32 0) : BitVec 32) = ~~~ (BitVec.ofInt 32 0) := by decide
  rw [e0] at this
  unfold more
  simp only [ofInt_toNat, Crc.wrap32, this]
  congr 2
  apply BitVec.eq_of_getLsbD_eq
  intro i hi
  simp only [BitVec.getLsbD_not, BitVec.getLsbD_xor, hi, decide_true, Bool.true_and]
  generalize (run (~~~ (BitVec.ofInt 32 0)) A).getLsbD i = x
  generalize (run (~~~ (BitVec.ofInt 32 0)) B).getLsbD i = y
  generalize (run (~~~ (BitVec.ofInt 32 0)) C).getLsbD i = z
  cases x <;> cases y <;> cases z <;> rfl

def fa (zs : List Int) (x : Int) (i : Nat) : Int := IntKind.u8.wrap ((IntKind.u8.wrap (zs.getD i 0 * x)) + (IntKind.u8.wrap (i : Int)))
def fc (zs : List Int) (y : Int) (i : Nat) : Int := IntKind.u8.wrap ((BitVec.ofInt 8 (zs.getD i 0) ^^^ BitVec.ofInt 8 (IntKind.u8.wrap (y * (IntKind.u8.wrap (IntKind.i64.wrap ((i : Int) + 3)))))).toNat : Nat)
def fd (zs : List Int) (x y : Int) (i : Nat) : Int := IntKind.u8.wrap ((BitVec.ofInt 8 (IntKind.u8.wrap ((BitVec.ofInt 8 (fa zs x i) ^^^ BitVec.ofInt 8 (zs.getD i 0)).toNat : Nat)) ^^^ BitVec.ofInt 8 (fc zs y i)).toNat : Nat)

structure TInv (W : World) (b : Nat) (q4 q6 q8 : Option Addr × Nat × Nat) (zs : List Int) (x y : Int) (k : Nat) (s : Int) (w : World) : Prop where
  cnt : s = (k : Int)
  st : St W b w
  a : Own w 5 1 q4 ((mixI (fa zs x) zs k).map (Value.int .u8))
  c : Own w 5 1 q6 ((mixI (fc zs y) zs k).map (Value.int .u8))
  d : Own w 5 1 q8 ((mixI (fd zs x y) zs k).map (Value.int .u8))

theorem map_set (f : Nat → Int) (zs : List Int) (k : Nat) : ((mixI f zs k).map (Value.int .u8)).set k (.int .u8 (f k)) = (mixI f zs (k + 1)).map (Value.int .u8) := by
  rw [← mixI_set, List.map_set]

theorem tog_round {W : World} {b g4 g6 g8 : Nat} {u q4 q6 q8 : Option Addr × Nat × Nat} {zs : List Int} {x y : Int} (hu : Sl8 W u zs) (hlen : zs.length < 140737488355000)
    (b4 : blkOf q4 = [g4]) (b6 : blkOf q6 = [g6]) (b8 : blkOf q8 = [g8]) (hb : b < g4) (h46 : g4 < g6) (h68 : g6 < g8) (hW : W.heap.size ≤ b)
    (p : Option Addr) (k : Nat) (s : Int) (w : World) (hk : k < zs.length) (hi : TInv W b q4 q6 q8 zs x y k s w) :
    ∃ s' w', g6_l9_b u q4 x q6 y q8 p s w = some (.normal, s', w') ∧ TInv W b q4 q6 q8 zs x y (k + 1) s' w' := by
  obtain ⟨rfl, st, oa, oc, od⟩ := hi
  have la := oa.len; have lc := oc.len; have ld := od.len
  simp only [List.length_map, mixI_length, Nat.mul_one] at la lc ld
  obtain ⟨ga, offa, ha, ia⟩ := oa.idx (i := k) (by omega)
  obtain ⟨gc, offc, hc', ic⟩ := oc.idx (i := k) (by omega)
  obtain ⟨gd, offd, hd', id⟩ := od.idx (i := k) (by omega)
  have ega : ga = g4 := by simpa [blkOf, ha] using b4
  have egc : gc = g6 := by simpa [blkOf, hc'] using b6
  have egd : gd = g8 := by simpa [blkOf, hd'] using b8
  subst ega egc egd
  obtain ⟨t1, o1, f1⟩ := oa.set ha (k := k) (u := .int .u8 (fa zs x k)) (by simp [mixI_length]; omega) rfl
  rw [map_set] at o1
  generalize hw1 : w.setCell ⟨ga, offa + k, none⟩ (.int .u8 (fa zs x k)) = w1 at t1 o1 f1
  have oc1 := oc.fr f1 (by rw [b6, b4]; simp; omega)
  have od1 := od.fr f1 (by rw [b8, b4]; simp; omega)
  obtain ⟨t2, o2, f2⟩ := oc1.set hc' (k := k) (u := .int .u8 (fc zs y k)) (by simp [mixI_length]; omega) rfl
  rw [map_set] at o2
  generalize hw2 : w1.setCell ⟨gc, offc + k, none⟩ (.int .u8 (fc zs y k)) = w2 at t2 o2 f2
  have oa2 := (o1.fr f2 (by rw [b4, b6]; simp; omega)).drew
  have oc2 := o2.drew
  have od2 := (od1.fr f2 (by rw [b8, b6]; simp; omega)).drew
  obtain ⟨t3, o3, f3⟩ := od2.set hd' (k := k) (u := .int .u8 (fd zs x y k)) (by simp [mixI_length]; omega) rfl
  rw [map_set] at o3
  generalize hw3 : w2.drew.setCell ⟨gd, offd + k, none⟩ (.int .u8 (fd zs x y k)) = w3 at t3 o3 f3
  have oa3 := oa2.fr f3 (by rw [b4, b8]; simp; omega)
  have oc3 := oc2.fr f3 (by rw [b6, b8]; simp; omega)
  rw [b4] at f1; rw [b6] at f2; rw [b8] at f3
  have S : ∀ {v v' : World} {g : Nat}, W.heap.size ≤ g → b ≠ g → St W b v → Fr [g] v v' → St W b v' := fun {v v' g} hg hne h f =>
    ⟨(h.fr.nil.trans f).mono (by intro z hz hlt; simp at hz; omega), h.tb.fr f (by simpa using hne), h.hb⟩
  have st1' := S (by omega) (by omega) st f1
  have st2' := S (by omega) (by omega) st1' f2
  have st2d := st2'.step (Fr.drew [] _)
  have st3' := S (by omega) (by omega) st2d f3
  -- what is read
  obtain ⟨au, iu, _⟩ := hu.get hk
  have ru : ∀ v, St W b v → v.cell? au = some (.int .u8 (zs.getD k 0)) := by
    intro v hv
    obtain ⟨a', i', c'⟩ := (hu.fr2 hv.fr (by simp)).get hk
    rw [iu] at i'
    obtain rfl : au = a' := by simpa using i'
    rw [c', getD_lt hk]
  have c1 := ru w st
  have c2 := ru w1 st1'
  have c3 := ru w2.drew st2d
  have c4 : w2.drew.cell? ⟨ga, offa + k, none⟩ = some (.int .u8 (fa zs x k)) := by
    have := oa2.get ha k (by simp [mixI_length]; omega)
    rw [this]; simp [mixI]
  have c5 : w2.drew.cell? ⟨gc, offc + k, none⟩ = some (.int .u8 (fc zs y k)) := by
    have := oc2.get hc' k (by simp [mixI_length]; omega)
    rw [this]; simp [mixI]
  refine ⟨((k + 1 : Nat) : Int), w3, ?_, rfl, st3', oa3, oc3, o3⟩
  have hc : (k : Int) < (u.2.1 : Int) := by have := hu.1; omega
  have hs := wrap_succ (n := k) (by omega)
  simp only [Nat.mul_one] at ia ic id
  unfold g6_l9_b
  simp only [hc, iu, c1, ia, Option.bind_some, asP_pointer, asB_bool, asI_int, asS_string, asSl_slice, asM_map, asTup0, asTup1, asTup2, asTup3, asTup4, asTup5, getD0, getD1, getD2, getD3, getD4, Bool.not_true, Bool.not_false, Bool.false_eq_true, Bool.true_eq_false, ↓reduceIte, decide_true, decide_false, Option.isNone_some, Option.isNone_none, Option.isSome_some, Option.isSome_none, beq_self_eq_true, bne_self_eq_false, Bool.and_true, Bool.true_and, Bool.and_false, Bool.false_and, not_true_eq_false, not_false_eq_true]
  rw [show IntKind.u8.wrap (IntKind.u8.wrap (zs.getD k 0 * x) + IntKind.u8.wrap (k : Int)) = fa zs x k from rfl]
  simp only [t1, c2, ic, Option.bind_some, asP_pointer, asB_bool, asI_int, asS_string, asSl_slice, asM_map, asTup0, asTup1, asTup2, asTup3, asTup4, asTup5, getD0, getD1, getD2, getD3, getD4, Bool.not_true, Bool.not_false, Bool.false_eq_true, Bool.true_eq_false, ↓reduceIte, decide_true, decide_false, Option.isNone_some, Option.isNone_none, Option.isSome_some, Option.isSome_none, beq_self_eq_true, bne_self_eq_false, Bool.and_true, Bool.true_and, Bool.and_false, Bool.false_and, not_true_eq_false, not_false_eq_true]
  rw [show IntKind.u8.wrap (((BitVec.ofInt 8 (zs.getD k 0) ^^^ BitVec.ofInt 8 (IntKind.u8.wrap (y * (IntKind.u8.wrap (IntKind.i64.wrap ((k : Int) + 3)))))).toNat : Nat) : Int) = fc zs y k from rfl]
  simp only [t2, c3, c4, c5, id, Option.bind_some, asP_pointer, asB_bool, asI_int, asS_string, asSl_slice, asM_map, asTup0, asTup1, asTup2, asTup3, asTup4, asTup5, getD0, getD1, getD2, getD3, getD4, Bool.not_true, Bool.not_false, Bool.false_eq_true, Bool.true_eq_false, ↓reduceIte, decide_true, decide_false, Option.isNone_some, Option.isNone_none, Option.isSome_some, Option.isSome_none, beq_self_eq_true, bne_self_eq_false, Bool.and_true, Bool.true_and, Bool.and_false, Bool.false_and, not_true_eq_false, not_false_eq_true]
  rw [show IntKind.u8.wrap (((BitVec.ofInt 8 (IntKind.u8.wrap (((BitVec.ofInt 8 (fa zs x k) ^^^ BitVec.ofInt 8 (zs.getD k 0)).toNat : Nat) : Int)) ^^^ BitVec.ofInt 8 (fc zs y k)).toNat : Nat) : Int) = fd zs x y k from rfl]
  simp only [t3, hs, Option.bind_some, asP_pointer, asB_bool, asI_int, asS_string, asSl_slice, asM_map, asTup0, asTup1, asTup2, asTup3, asTup4, asTup5, getD0, getD1, getD2, getD3, getD4, Bool.not_true, Bool.not_false, Bool.false_eq_true, Bool.true_eq_false, ↓reduceIte, decide_true, decide_false, Option.isNone_some, Option.isNone_none, Option.isSome_some, Option.isSome_none, beq_self_eq_true, bne_self_eq_false, Bool.and_true, Bool.true_and, Bool.and_false, Bool.false_and, not_true_eq_false, not_false_eq_true]

theorem CrcTogether_main (W : World) (x0 : (Ty.slice (.int .u8)).Val) (h0 : (Ty.slice (.int .u8)).At W [.slice x0.1.1 x0.1.2.1 x0.1.2.2] x0) (n1 : Int) (h1 : IntKind.u8.min ≤ n1 ∧ n1 ≤ IntKind.u8.max) (n2 : Int) (h2 : IntKind.u8.min ≤ n2 ∧ n2 ≤ IntKind.u8.max)
    (hs0 : Ty.Fits (.slice (.int .u8)) x0) :
    ∃ w', callF Try.prog 6 #[.slice x0.1.1 x0.1.2.1 x0.1.2.2, .int .u8 n1, .int .u8 n2] W = some (.bool true, w') ∧ Fr [] W w' := by
  have hlen : x0.2.length ≤ 140737488351232 := Fits.u8 hs0
  obtain ⟨hu, hz, hlt⟩ := slI_of_at h0
  replace hz := zs_of hz
  have hll := hu.1
  obtain ⟨w1, e1, s1⟩ := St.new (W := W)
  obtain ⟨q4, w2, e2, s2, o2, d2, k2, _⟩ := s1.own hu (by omega)
  obtain ⟨q6, w3, e3, s3, o3, d3, k3, f3⟩ := s2.own hu (by omega)
  obtain ⟨q8, w4, e4, s4, o4, d4, k4, f4⟩ := s3.own hu (by omega)
  have hsz1 : W.heap.size < w1.heap.size := s1.tb.lt
  have hsz2 : w1.heap.size < w2.heap.size := o2.lt _ (by rw [k2]; simp)
  have hsz3 : w2.heap.size < w3.heap.size := o3.lt _ (by rw [k3]; simp)
  have o2' := (o2.fr f3 (by simp)).fr f4 (by simp)
  have o3' := o3.fr f4 (by simp)
  obtain ⟨t, w5, e5, i5⟩ := loopS_count (b := g6_l9_b x0.1 q4 n1 q6 n2 q8 (some ⟨W.heap.size, 0, none⟩)) (I := TInv W W.heap.size q4 q6 q8 x0.2 n1 n2) (n := x0.2.length)
    (fun k st w hk hi => tog_round hu (by omega) k2 k3 k4 hsz1 hsz2 hsz3 (Nat.le_refl _) _ k st w hk hi)
    (fun st w hi => by
      obtain ⟨rfl, _, _, _, _⟩ := hi
      have hc : ¬ ((x0.2.length : Nat) : Int) < (x0.1.2.1 : Int) := by omega
      unfold g6_l9_b
      simp only [hc, Option.bind_some, asP_pointer, asB_bool, asI_int, asS_string, asSl_slice, asM_map, asTup0, asTup1, asTup2, asTup3, asTup4, asTup5, getD0, getD1, getD2, getD3, getD4, Bool.not_true, Bool.not_false, Bool.false_eq_true, Bool.true_eq_false, ↓reduceIte, decide_true, decide_false, Option.isNone_some, Option.isNone_none, Option.isSome_some, Option.isSome_none, beq_self_eq_true, bne_self_eq_false, Bool.and_true, Bool.true_and, Bool.and_false, Bool.false_and, not_true_eq_false, not_false_eq_true])
    (Nat.zero_le _) (k := 0) (s := ((0 : Nat) : Int)) (w := w4) ⟨rfl, s4, by rw [mixI_zero]; exact o2', by rw [mixI_zero]; exact o3', by rw [mixI_zero]; exact o4⟩
  obtain ⟨_, s5, oa, oc, od⟩ := i5
  rw [mixI_all] at oa oc od
  have za : ∀ f : Nat → Int, (∀ i, 0 ≤ f i ∧ f i < 256) → Zs ((List.range x0.2.length).map f) := by
    intro f hf z hm
    obtain ⟨i, _, rfl⟩ := List.mem_map.1 hm
    exact hf i
  have z1 := za (fa x0.2 n1) fun i => wrap8_range _
  have z2 := za (fc x0.2 n2) fun i => wrap8_range _
  have z3 := za (fd x0.2 n1 n2) fun i => wrap8_range _
  have ll : ∀ f : Nat → Int, ((List.range x0.2.length).map f).length ≤ 140737488355000 := by intro f; simp; omega
  have ob : ∀ {v v' : World} {q : Option Addr × Nat × Nat} {xs : List Value}, Own v 5 1 q xs → Fr [W.heap.size] v v' → W.heap.size ∉ blkOf q → Own v' 5 1 q xs := fun h f hd => h.fr f (by intro z hz hm; simp at hm; subst hm; exact hd hz)
  obtain ⟨w6, e6, f6⟩ := awake10 (w := w5)
  have s6 := s5.step f6
  have oa6 := oa.fr f6 (by simp)
  have oc6 := oc.fr f6 (by simp)
  have od6 := od.fr f6 (by simp)
  obtain ⟨w7, e7, s7, f7⟩ := s6.sum od6.slI z3 (fun _ => d4) (ll _)
  obtain ⟨w8, e8, s8, f8⟩ := s7.sum (ob oa6 f7 d2).slI z1 (fun _ => d2) (ll _)
  obtain ⟨q9, w9, e9, s9, o9, d9, _, f9⟩ := s8.own hu (by omega)
  obtain ⟨w10, e10, s10, f10⟩ := s9.sum o9.slI hz (fun _ => d9) (by omega)
  obtain ⟨w11, e11, s11, f11⟩ := s10.sum (ob ((ob (ob oc6 f7 d3) f8 d3).fr f9 (by simp)) f10 d3).slI z2 (fun _ => d3) (ll _)
  refine ⟨w11, g6_call ?_, s11.fr⟩
  have e12 := g6_l9_x0_of e5
  simp only [Int.natCast_zero] at e12
  have hx := more_xor3 (A := (List.range x0.2.length).map (fa x0.2 n1)) (B := x0.2) (C := (List.range x0.2.length).map (fc x0.2 n2)) (D := (List.range x0.2.length).map (fd x0.2 n1 n2)) (by simp) (by simp) (by simp) (by
    intro i hi
    have hi' : i < x0.2.length := by simpa using hi
    simp only [List.getElem_map, List.getElem_range]
    unfold fd
    rw [getD_lt hi', Crc.wrap8, Crc.wrap8, ofInt_toNat, ofInt_toNat])
  unfold g6
  simp only [e1, e2, e3, e4, e12, Option.bind_some, asP_pointer, asB_bool, asI_int, asS_string, asSl_slice, asM_map, asTup0, asTup1, asTup2, asTup3, asTup4, asTup5, getD0, getD1, getD2, getD3, getD4, Bool.not_true, Bool.not_false, Bool.false_eq_true, Bool.true_eq_false, ↓reduceIte, decide_true, decide_false, Option.isNone_some, Option.isNone_none, Option.isSome_some, Option.isSome_none, beq_self_eq_true, bne_self_eq_false, Bool.and_true, Bool.true_and, Bool.and_false, Bool.false_and, not_true_eq_false, not_false_eq_true]
  unfold g6_l9_x0
  simp only [e6, e7, e8, e9, e10, e11, hx, Option.bind_some, asP_pointer, asB_bool, asI_int, asS_string, asSl_slice, asM_map, asTup0, asTup1, asTup2, asTup3, asTup4, asTup5, getD0, getD1, getD2, getD3, getD4, Bool.not_true, Bool.not_false, Bool.false_eq_true, Bool.true_eq_false, ↓reduceIte, decide_true, decide_false, Option.isNone_some, Option.isNone_none, Option.isSome_some, Option.isSome_none, beq_self_eq_true, bne_self_eq_false, Bool.and_true, Bool.true_and, Bool.and_false, Bool.false_and, not_true_eq_false, not_false_eq_true]
end Go.Proofs.Ytakcmfbkknaehaa
