/-
  ImageBack: lemmas on what Go functions of this seat come to (for whatever arguments, as each says). No condition but those that stand in each lemma.
-/
import Derived.Test.YtjcenfgmpbeldaaImageReads
import Derived.Test.YtjcenfgmpbeldaaImageL10
namespace Go.Proofs.Ytjcenfgmpbeldaa
open Go Go.Ev
set_option maxRecDepth 100000
set_option linter.unusedVariables false
set_option linter.unusedSimpArgs false

abbrev IR (z : Int) : Prop := -9223372036854775808 ≤ z ∧ z ≤ 9223372036854775807

/-- reading at a form gives what was written, and goes on behind it -/
def Rds {α : Type} (f : RS → α × RS) (l : List Int) (x : α) : Prop := ∀ (bs t : List Int) (a : Nat), bs.drop a = l ++ t → f ⟨bs, a, 0⟩ = (x, ⟨bs, a + l.length, 0⟩)
theorem rds_on {bs l t : List Int} {a : Nat} (h : bs.drop a = l ++ t) : bs.drop (a + l.length) = t := by
  rw [← List.drop_drop, h, List.drop_left]
theorem rds_uint {n : Nat} (hn : n < 2 ^ 64) : Rds uintS (encU n) n := fun bs t a h => uintS_enc (s := ⟨bs, a, 0⟩) rfl h hn
theorem rds_int {z : Int} (hz : IR z) : Rds intS (encI z) z := fun bs t a h => intS_enc (s := ⟨bs, a, 0⟩) rfl h hz
theorem rds_flag (b : Bool) : Rds flagS (encF b) b := fun bs t a h => flagS_enc (s := ⟨bs, a, 0⟩) rfl h
theorem rds_ints {l : List Int} (hl : l.length ≤ 4096) (hz : ∀ z ∈ l, IR z) : Rds intsS (encL l) l := fun bs t a h => intsS_enc (s := ⟨bs, a, 0⟩) rfl h hl hz

def encNode (v : NV) : List Int := encF v.al ++ (encI v.cm ++ encU v.bk.toNat)
def encPart (v : PV) : List Int := encI v.ld ++ (encI v.ep ++ (encI v.vr ++ (encL v.isr ++ (encL v.rep ++ encL v.tgt))))
def encImg (m : IM) : List Int := encU m.ns.length ++ ((m.ns.map encNode).flatten ++ (encU m.vs.length ++ ((m.vs.map encPart).flatten ++ (encU m.next.toNat ++ encI m.count))))

structure NOk (v : NV) : Prop where
  cm : IR v.cm
  bk : 0 ≤ v.bk ∧ v.bk < 18446744073709551616
structure POk (v : PV) : Prop where
  ld : IR v.ld
  ep : IR v.ep
  vr : IR v.vr
  isr : v.isr.length ≤ 4096 ∧ ∀ z ∈ v.isr, IR z
  rep : v.rep.length ≤ 4096 ∧ ∀ z ∈ v.rep, IR z
  tgt : v.tgt.length ≤ 4096 ∧ ∀ z ∈ v.tgt, IR z
structure WOk (m : IM) : Prop where
  ns : ∀ v ∈ m.ns, NOk v
  vs : ∀ v ∈ m.vs, POk v
  nl : m.ns.length ≤ 5
  vl : m.vs.length ≤ 6
  nx : 0 ≤ m.next ∧ m.next < 18446744073709551616
  ct : IR m.count

theorem rds_node {v : NV} (h : NOk v) : Rds rdNode (encNode v) v := by
  intro bs t a hd
  unfold encNode at hd
  have d0 : bs.drop a = encF v.al ++ (encI v.cm ++ (encU v.bk.toNat ++ t)) := by rw [hd]; simp
  have e1 := rds_flag v.al bs _ a d0
  have d1 := rds_on d0
  have e2 := rds_int h.cm bs _ _ d1
  have d2 := rds_on d1
  have e3 := rds_uint (n := v.bk.toNat) (by have := h.bk; omega) bs _ _ d2
  have hb : ((v.bk.toNat : Nat) : Int) = v.bk := by have := h.bk; omega
  unfold rdNode
  simp only [e1, e2, e3, hb]
  simp [encNode, Nat.add_assoc]

theorem rds_part {v : PV} (h : POk v) : Rds rdPart (encPart v) v := by
  intro bs t a hd
  unfold encPart at hd
  have d0 : bs.drop a = encI v.ld ++ (encI v.ep ++ (encI v.vr ++ (encL v.isr ++ (encL v.rep ++ (encL v.tgt ++ t))))) := by rw [hd]; simp
  have e1 := rds_int h.ld bs _ _ d0
  have d1 := rds_on d0
  have e2 := rds_int h.ep bs _ _ d1
  have d2 := rds_on d1
  have e3 := rds_int h.vr bs _ _ d2
  have d3 := rds_on d2
  have e4 := rds_ints h.isr.1 h.isr.2 bs _ _ d3
  have d4 := rds_on d3
  have e5 := rds_ints h.rep.1 h.rep.2 bs _ _ d4
  have d5 := rds_on d4
  have e6 := rds_ints h.tgt.1 h.tgt.2 bs _ _ d5
  unfold rdPart
  simp only [e1, e2, e3, e4, e5, e6]
  simp [encPart, Nat.add_assoc]

theorem rdN_enc {α : Type} {f : RS → α × RS} {enc : α → List Int} {xs : List α} (hf : ∀ x ∈ xs, Rds f (enc x) x) {bs t : List Int} {a : Nat} (hd : bs.drop a = (xs.map enc).flatten ++ t) :
    ∀ k, k ≤ xs.length → rdN f k ⟨bs, a, 0⟩ = (xs.take k, ⟨bs, a + ((xs.take k).map enc).flatten.length, 0⟩) ∧ bs.drop (a + ((xs.take k).map enc).flatten.length) = ((xs.drop k).map enc).flatten ++ t
  | 0, _ => by simp [rdN, hd]
  | k + 1, hk => by
    obtain ⟨e, d⟩ := rdN_enc hf hd k (by omega)
    have hx : xs.drop k = xs[k] :: xs.drop (k + 1) := List.drop_eq_getElem_cons (by omega)
    have ht : xs.take (k + 1) = xs.take k ++ [xs[k]] := (List.take_append_getElem (by omega)).symm
    rw [hx, List.map_cons, List.flatten_cons, List.append_assoc] at d
    have e2 := hf xs[k] (List.getElem_mem (by omega)) bs _ _ d
    have d2 := rds_on d
    unfold rdN
    rw [e]
    simp only [e2]
    rw [ht, List.map_append, List.flatten_append]
    simp only [List.map_cons, List.map_nil, List.flatten_cons, List.flatten_nil, List.append_nil, List.length_append, ← Nat.add_assoc]
    exact ⟨trivial, d2⟩

theorem rdImg_enc {m : IM} (h : WOk m) : rdImg ⟨encImg m, 0, 0⟩ = (m, ⟨encImg m, (encImg m).length, 0⟩) := by
  obtain ⟨B, hB⟩ : ∃ B, encImg m = B := ⟨_, rfl⟩
  have d0 : B.drop 0 = encU m.ns.length ++ ((m.ns.map encNode).flatten ++ (encU m.vs.length ++ ((m.vs.map encPart).flatten ++ (encU m.next.toNat ++ (encI m.count ++ []))))) := by rw [← hB]; simp [encImg]
  have hl : B.length = (encU m.ns.length).length + ((m.ns.map encNode).flatten.length + ((encU m.vs.length).length + ((m.vs.map encPart).flatten.length + ((encU m.next.toNat).length + (encI m.count).length)))) := by rw [← hB]; simp [encImg]
  rw [hB]
  have hnl := h.nl
  have hvl := h.vl
  have hnx := h.nx
  have e1 := rds_uint (n := m.ns.length) (by omega) B _ _ d0
  have d1 := rds_on d0
  obtain ⟨e2, d2⟩ := rdN_enc (f := rdNode) (enc := encNode) (fun x hx => rds_node (h.ns x hx)) d1 m.ns.length (Nat.le_refl _)
  rw [List.take_length, List.drop_length] at *
  simp only [List.map_nil, List.flatten_nil, List.nil_append] at d2
  have e3 := rds_uint (n := m.vs.length) (by omega) B _ _ d2
  have d3 := rds_on d2
  obtain ⟨e4, d4⟩ := rdN_enc (f := rdPart) (enc := encPart) (fun x hx => rds_part (h.vs x hx)) d3 m.vs.length (Nat.le_refl _)
  rw [List.take_length, List.drop_length] at *
  simp only [List.map_nil, List.flatten_nil, List.nil_append] at d4
  have e5 := rds_uint (n := m.next.toNat) (by omega) B _ _ d4
  have d5 := rds_on d4
  have e6 := rds_int h.ct B _ _ d5
  have c5 : capN 5 m.ns.length = m.ns.length := by unfold capN; rw [if_neg (by omega)]
  have c6 : capN 6 m.vs.length = m.vs.length := by unfold capN; rw [if_neg (by omega)]
  have hx : ((m.next.toNat : Nat) : Int) = m.next := by omega
  unfold rdImg
  simp only [e1, c5, e2, e3, c6, e4, e5, e6, hx]
  congr 2
  rw [hl]
  omega

open Classical in
theorem decM_enc {m : IM} (h : WOk m) (hs : soundI m) : decM (encImg m) = (some m, 0) := by
  rw [decM_eq, rdImg_enc h]
  have h0 : endS ⟨encImg m, (encImg m).length, 0⟩ = 0 := by unfold endS; simp
  simp only [decF, h0, ne_eq, not_true_eq_false, if_false, hs, if_true]
end Go.Proofs.Ytjcenfgmpbeldaa

namespace Go.Proofs.Ytjcenfgmpbeldaa
open Go Go.Ev
set_option maxRecDepth 100000
set_option linter.unusedVariables false
set_option linter.unusedSimpArgs false

theorem encL_len2 {l : List Int} (hz : ∀ z ∈ l, IR z) : (encL l).length ≤ 10 + 10 * l.length ∨ 10000000 < l.length := by
  by_cases h : l.length ≤ 10000000
  · left
    have h1 := encU_len10 (n := l.length) (by omega)
    have h2 := flat_lenW l hz
    simp only [encL, List.length_append]
    omega
  · right; omega

/-- blocks that are not the writer's are kept -/
def Kp (w w' : World) : Prop := ∀ nb cs (T : TypeId), T ≠ 5 → T ≠ 130 → Blk w nb cs T → Blk w' nb cs T
theorem Kp.refl (w : World) : Kp w w := fun _ _ _ _ _ h => h
theorem Kp.fr {w w' : World} (f : Fr [] w w') : Kp w w' := fun nb cs T _ _ h => h.fr f (by simp)

/-- a writer that was made after W, and what it holds -/
def WB (W w : World) (p : Nat) (xs : List Int) (N : Nat) : Prop := ∃ q, Wr w W.heap.size p q xs ∧ Fr [] W w ∧ xs.length ≤ N

section
variable {W w : World} {p N : Nat} {xs : List Int}
theorem WB.fr (h : WB W w p xs N) : Fr [] W w := by obtain ⟨q, h1, h2, h3⟩ := h; exact h2
theorem WB.aside (h : WB W w p xs N) {w' : World} (f : Fr [] w w') : WB W w' p xs N := by
  obtain ⟨q, h1, h2, h3⟩ := h
  exact ⟨q, h1.fr f (by simp) (by simp), (Fr.mono (Fr.app h2 f) (by have z0_ := Fr.size h2; have z1_ := Fr.size f; intro y_ hy_ hl_; grind [blkOf])), h3⟩
theorem WB.up (h : WB W w p xs N) {M : Nat} (hm : N ≤ M) : WB W w p xs M := by
  obtain ⟨q, h1, h2, h3⟩ := h
  exact ⟨q, h1, h2, by omega⟩

theorem wb_op {q q' : ShT} {w' : World} {ys : List Int} {M : Nat} (h1 : Wr w W.heap.size p q xs) (h2 : Fr [] W w) (h1' : Wr w' W.heap.size p q' ys) (f : Fr (p :: blkOf q) w w') (hl : ys.length ≤ M) : WB W w' p ys M ∧ Kp w w' := by
  refine ⟨⟨q', h1', (h2.app f).mono ?_, hl⟩, fun nb cs T t5 t130 hb => hb.fr f ?_⟩
  · intro y hy hlt
    simp at hy
    rcases hy with rfl | hy
    · have := h1.bp; omega
    · have := h1.bq y hy; omega
  · intro hm
    rcases List.mem_cons.mp hm with rfl | hm
    · exact hb.ne h1.blk t130 rfl
    · exact hb.notin h1.own t5 hm

theorem WB.uint (h : WB W w p xs N) {n : Nat} (hn : n < 2 ^ 64) (hN : N ≤ 100000000) :
    ∃ w', callF Try.prog 45 #[.pointer (some ⟨p, 0, none⟩), .int .u64 (n : Int)] w = some (.tuple #[], w') ∧ WB W w' p (xs ++ encU n) (N + 10) ∧ Kp w w' := by
  obtain ⟨q, h1, h2, h3⟩ := h
  obtain ⟨q', w', e, h1', f, _⟩ := uint52 h1 hn (by omega)
  exact ⟨w', e, wb_op h1 h2 h1' f (by have := encU_len10 hn; simp; omega)⟩
theorem WB.int (h : WB W w p xs N) {z : Int} (hz : IR z) (hN : N ≤ 100000000) :
    ∃ w', callF Try.prog 47 #[.pointer (some ⟨p, 0, none⟩), .int .i64 z] w = some (.tuple #[], w') ∧ WB W w' p (xs ++ encI z) (N + 10) ∧ Kp w w' := by
  obtain ⟨q, h1, h2, h3⟩ := h
  obtain ⟨q', w', e, h1', f, _⟩ := int51 h1 hz (by omega)
  exact ⟨w', e, wb_op h1 h2 h1' f (by have := encU_len10 (zig_lt hz); simp [encI]; omega)⟩
theorem WB.flag (h : WB W w p xs N) (b : Bool) (hN : N ≤ 100000000) :
    ∃ w', callF Try.prog 46 #[.pointer (some ⟨p, 0, none⟩), .bool b] w = some (.tuple #[], w') ∧ WB W w' p (xs ++ encF b) (N + 10) ∧ Kp w w' := by
  obtain ⟨q, h1, h2, h3⟩ := h
  obtain ⟨q', w', e, h1', f, _⟩ := flag54 h1 b (by omega)
  exact ⟨w', e, wb_op h1 h2 h1' f (by simp [encF]; omega)⟩
theorem WB.ints (h : WB W w p xs N) {u : ShT} {l : List Int} (hu : SlI .i64 W u l) (hz : ∀ z ∈ l, IR z) (hl : l.length ≤ 4096) (hN : N ≤ 100000000) :
    ∃ w', callF Try.prog 48 #[.pointer (some ⟨p, 0, none⟩), .slice u.1 u.2.1 u.2.2] w = some (.tuple #[], w') ∧ WB W w' p (xs ++ encL l) (N + 41000) ∧ Kp w w' := by
  obtain ⟨q, h1, h2, h3⟩ := h
  have hq : 0 < u.2.1 → ∀ y ∈ blkOf u, y < W.heap.size := fun h0 y hy => hu.slC.lt (by have h1 := hu.1; rw [List.length_map]; omega) y hy
  obtain ⟨q', w', e, h1', f, _⟩ := ints53 h1 (hu.fr3 h2 (by simp)) (fun h0 y hy => ⟨fun e => by have := hq h0 y hy; have := h1.bp; omega, fun hm => by have := hq h0 y hy; have := h1.bq y hm; omega⟩) hz (by omega) (by omega)
  exact ⟨w', e, wb_op h1 h2 h1' f (by have := encL_len2 hz; simp; omega)⟩
theorem WB.out (h : WB W w p xs N) (hN : N ≤ 100000000) :
    ∃ v w', callF Try.prog 49 #[.pointer (some ⟨p, 0, none⟩)] w = some (.tuple #[.slice v.1 v.2.1 v.2.2, .int .i64 0], w') ∧ Own w' 5 1 v (bytesV xs) ∧ Fr [] W w' ∧ ∀ y ∈ blkOf v, W.heap.size ≤ y := by
  obtain ⟨q, h1, h2, h3⟩ := h
  obtain ⟨v, w', e, o, f, n⟩ := out55 h1 (by omega)
  have := h2.size
  exact ⟨v, w', e, o, (Fr.mono (Fr.app h2 f) (by have z0_ := Fr.size h2; have z1_ := Fr.size f; intro y_ hy_ hl_; grind [blkOf])), fun y hy => by have := n y hy; omega⟩

theorem newN2 (x : World) (v : NV) : ∃ x', stL (x.alloc (.cells #[.bool false, .int .i64 0, .int .u64 0] 85)) ⟨x.heap.size, 0, none⟩ [.bool v.al, .int .i64 v.cm, .int .u64 v.bk] 0 = some x' ∧
    Fr [] x x' ∧ Blk x' x.heap.size v.cs 85 := by
  have b : Blk (x.alloc (.cells #[.bool false, .int .i64 0, .int .u64 0] 85)) x.heap.size [.bool false, .int .i64 0, .int .u64 0] 85 := Blk.new x _ 85
  have f : Fr [] x (x.alloc (.cells #[.bool false, .int .i64 0, .int .u64 0] 85)) := Fr.alloc _
  obtain ⟨x', h1, h2, h3⟩ := b.stL (vs := v.cs) rfl (nvcs_oc v)
  exact ⟨x', h1, (f.app h3).mono (by intro y hy hl; simp at hy; omega), h2⟩
end

section
variable {W w : World} {D : Nat → Prop} {b c p N : Nat} {nq pq : Sh} {ns : List NV} {es : List PE} {next count : Int} {xs : List Int}

theorem bytes_node (h : Raw W D b c nq pq ns es next count) (hw : WB W w p xs N) {k : Nat} (hk : k < ns.length) (hl : ns.length ≤ 1000) (ok : NOk ns[k]) (hN : N ≤ 10000000) (u : Option Addr) :
    ∃ w', g24_l12_b nq (some ⟨p, 0, none⟩) u (k : Int) w = some (.normal, ((k + 1 : Nat) : Int), w') ∧ WB W w' p (xs ++ encNode ns[k]) (N + 30) := by
  have hx := h.fr hw.fr (by simp)
  have hnn := hx.nlen
  obtain ⟨g, off, qa, i1, rr, _⟩ := row_at (f := NV.cs) ndf_len (by decide) hx.nd (ndCs_len ns) hk
  have ld : ldN w ⟨g, off + k * 3, none⟩ 0 3 = some (ns[k].cs) := ldN_of_cells (cs := ns[k].cs) (i := 0) fun i hi => by
    rw [addr_add, Nat.zero_add, rr i hi, List.getElem?_eq_getElem hi]
  obtain ⟨v, hv⟩ : ∃ v, ns[k] = v := ⟨_, rfl⟩
  rw [hv] at ld ok ⊢
  simp only [NV.cs] at ld
  obtain ⟨w1, s1, f1, b1⟩ := newN2 w v
  have c0 : w1.cell? ⟨w.heap.size, 0, none⟩ = some (.bool v.al) := b1.cell 0
  obtain ⟨w2, e2, h2, k2⟩ := (hw.aside f1).flag v.al (by omega)
  have b2 := k2 _ _ _ (by decide) (by decide) b1
  have c1 : w2.cell? ⟨w.heap.size, 1, none⟩ = some (.int .i64 v.cm) := b2.cell 1
  obtain ⟨w3, e3, h3, k3⟩ := h2.int ok.cm (by omega)
  have b3 := k3 _ _ _ (by decide) (by decide) b2
  have c2 : w3.cell? ⟨w.heap.size, 2, none⟩ = some (.int .u64 v.bk) := b3.cell 2
  obtain ⟨w4, e4, h4, k4⟩ := h3.uint (n := v.bk.toNat) (by have := ok.bk; omega) (by omega)
  have hb : ((v.bk.toNat : Nat) : Int) = v.bk := by have := ok.bk; omega
  rw [hb] at e4
  have k0 : decide ((k : Int) < (nq.2.1 : Int)) = true := by simp; omega
  have kw := wrap_succ (n := k) (by omega)
  refine ⟨w4, ?_, ?_⟩
  · unfold g24_l12_b
    simp only [k0, i1, ld, s1, addr_add, Nat.zero_add, c0, e2, c1, e3, c2, e4, kw, obs, asP_pointer, asB_bool, asI_int, asS_string, asSl_slice, asM_map, asTup0, asTup1, asTup2, asTup3, asTup4, asTup5, asTup6, asTup7, asTup8, asTup9, asAgg2, asAgg3, asAgg4, asAgg5, asAgg6, asAgg7, asAgg8, asAgg9, asAgg12, getD0, getD1, getD2, getD3, getD4, getD5, getD6, getD7, getD8, getD9, getD10, getD11, getD12, getD13, getD14, getD15, getD16, getD17, getD18, getD19, Bool.not_true, Bool.not_false, Bool.false_eq_true, Bool.true_eq_false, ↓reduceIte, decide_true, decide_false, Option.isNone_some, Option.isNone_none, Option.isSome_some, Option.isSome_none, beq_self_eq_true, bne_self_eq_false, Bool.and_true, Bool.true_and, Bool.and_false, Bool.false_and, not_true_eq_false, not_false_eq_true]
  · have : xs ++ encNode v = ((xs ++ encF v.al) ++ encI v.cm) ++ encU v.bk.toNat := by simp [encNode]
    rw [this]
    exact h4.up (by omega)

theorem bytes_part (h : Raw W D b c nq pq ns es next count) (hw : WB W w p xs N) {k : Nat} (hk : k < es.length) (hl : es.length ≤ 1000) (ok : POk es[k].v) (hN : N ≤ 10000000) (u : Option Addr) :
    ∃ w', g24_l44_b pq (some ⟨p, 0, none⟩) u (k : Int) w = some (.normal, ((k + 1 : Nat) : Int), w') ∧ WB W w' p (xs ++ encPart es[k].v) (N + 150000) := by
  have hx := h.fr hw.fr (by simp)
  have hnn := hx.plen
  obtain ⟨g, off, qa, i1, rr, _⟩ := row_at (f := PE.cs) pef_len (by decide) hx.pt (ptCs_len es) hk
  have ld : ldN w ⟨g, off + k * 6, none⟩ 0 6 = some (es[k].cs) := ldN_of_cells (cs := es[k].cs) (i := 0) fun i hi => by
    rw [addr_add, Nat.zero_add, rr i hi, List.getElem?_eq_getElem hi]
  have pk := h.ok _ (List.getElem_mem hk)
  obtain ⟨e, he⟩ : ∃ e, es[k] = e := ⟨_, rfl⟩
  rw [he] at ld ok pk ⊢
  simp only [PE.cs, PV.cs] at ld
  obtain ⟨w1, s1, b1, f1, _⟩ := newP w e.v e.qi e.qr e.qt
  have c0 : w1.cell? ⟨w.heap.size, 0, none⟩ = some (.int .i64 e.v.ld) := b1.cell 0
  obtain ⟨w2, e2, h2, k2⟩ := (hw.aside f1).int ok.ld (by omega)
  have b2 := k2 _ _ _ (by decide) (by decide) b1
  have c1 : w2.cell? ⟨w.heap.size, 1, none⟩ = some (.int .i64 e.v.ep) := b2.cell 1
  obtain ⟨w3, e3, h3, k3⟩ := h2.int ok.ep (by omega)
  have b3 := k3 _ _ _ (by decide) (by decide) b2
  have c2 : w3.cell? ⟨w.heap.size, 2, none⟩ = some (.int .i64 e.v.vr) := b3.cell 2
  obtain ⟨w4, e4, h4, k4⟩ := h3.int ok.vr (by omega)
  have b4 := k4 _ _ _ (by decide) (by decide) b3
  have c3 : w4.cell? ⟨w.heap.size, 3, none⟩ = some (.slice e.qi.1 e.qi.2.1 e.qi.2.2) := b4.cell 3
  have c4 : w4.cell? ⟨w.heap.size, 4, none⟩ = some (.slice e.qr.1 e.qr.2.1 e.qr.2.2) := b4.cell 4
  have c5 : w4.cell? ⟨w.heap.size, 5, none⟩ = some (.slice e.qt.1 e.qt.2.1 e.qt.2.2) := b4.cell 5
  obtain ⟨w5, hw5⟩ : ∃ w5, w4.alloc (.cells #[.slice e.qi.1 e.qi.2.1 e.qi.2.2, .slice e.qr.1 e.qr.2.1 e.qr.2.2, .slice e.qt.1 e.qt.2.1 e.qt.2.2] 28) = w5 := ⟨_, rfl⟩
  have f5 : Fr [] w4 w5 := by rw [← hw5]; exact Fr.alloc _
  have b5 : Blk w5 w4.heap.size [.slice e.qi.1 e.qi.2.1 e.qi.2.2, .slice e.qr.1 e.qr.2.1 e.qr.2.2, .slice e.qt.1 e.qt.2.1 e.qt.2.2] 28 := by rw [← hw5]; exact Blk.new w4 [.slice e.qi.1 e.qi.2.1 e.qi.2.2, .slice e.qr.1 e.qr.2.1 e.qr.2.2, .slice e.qt.1 e.qt.2.1 e.qt.2.2] 28
  have i0 : idxA (some ⟨w4.heap.size, 0, none⟩) 3 1 0 = some ⟨w4.heap.size, 0, none⟩ := rfl
  have i1' : idxA (some ⟨w4.heap.size, 0, none⟩) 3 1 1 = some ⟨w4.heap.size, 1, none⟩ := rfl
  have i2 : idxA (some ⟨w4.heap.size, 0, none⟩) 3 1 2 = some ⟨w4.heap.size, 2, none⟩ := rfl
  have d0 : w5.cell? ⟨w4.heap.size, 0, none⟩ = some (.slice e.qi.1 e.qi.2.1 e.qi.2.2) := b5.cell 0
  obtain ⟨w6, e6, h6, k6⟩ := (h4.aside f5).ints pk.oi.slI ok.isr.2 ok.isr.1 (by omega)
  have b6 := k6 _ _ _ (by decide) (by decide) b5
  have d1 : w6.cell? ⟨w4.heap.size, 1, none⟩ = some (.slice e.qr.1 e.qr.2.1 e.qr.2.2) := b6.cell 1
  obtain ⟨w7, e7, h7, k7⟩ := h6.ints pk.or_.slI ok.rep.2 ok.rep.1 (by omega)
  have b7 := k7 _ _ _ (by decide) (by decide) b6
  have d2 : w7.cell? ⟨w4.heap.size, 2, none⟩ = some (.slice e.qt.1 e.qt.2.1 e.qt.2.2) := b7.cell 2
  obtain ⟨w8, e8, h8, k8⟩ := h7.ints pk.ot.slI ok.tgt.2 ok.tgt.1 (by omega)
  have kw := wrap_succ (n := k) (by omega)
  have n1 : IntKind.i64.wrap ((0 : Int) + 1) = 1 := by decide
  have n2 : IntKind.i64.wrap ((1 : Int) + 1) = 2 := by decide
  have n3 : IntKind.i64.wrap ((2 : Int) + 1) = 3 := by decide
  have inner : ∀ v1 : Value, g24_l72 u (some ⟨p, 0, none⟩) pq (k : Int) (v1, w4) 0 w5 = some (.normal, ((k + 1 : Nat) : Int), w8) := by
    intro v1
    have r0 : g24_l72_b (v1, w4) (some ⟨p, 0, none⟩) u pq (k : Int) 0 w5 = some (.normal, 1, w6) := by
      unfold g24_l72_b
      have q : decide ((0 : Int) < 3) = true := by decide
      simp only [q, i0, d0, e6, n1, obs, asP_pointer, asB_bool, asI_int, asS_string, asSl_slice, asM_map, asTup0, asTup1, asTup2, asTup3, asTup4, asTup5, asTup6, asTup7, asTup8, asTup9, asAgg2, asAgg3, asAgg4, asAgg5, asAgg6, asAgg7, asAgg8, asAgg9, asAgg12, getD0, getD1, getD2, getD3, getD4, getD5, getD6, getD7, getD8, getD9, getD10, getD11, getD12, getD13, getD14, getD15, getD16, getD17, getD18, getD19, Bool.not_true, Bool.not_false, Bool.false_eq_true, Bool.true_eq_false, ↓reduceIte, decide_true, decide_false, Option.isNone_some, Option.isNone_none, Option.isSome_some, Option.isSome_none, beq_self_eq_true, bne_self_eq_false, Bool.and_true, Bool.true_and, Bool.and_false, Bool.false_and, not_true_eq_false, not_false_eq_true]
    have r1 : g24_l72_b (v1, w4) (some ⟨p, 0, none⟩) u pq (k : Int) 1 w6 = some (.normal, 2, w7) := by
      unfold g24_l72_b
      have q : decide ((1 : Int) < 3) = true := by decide
      simp only [q, i1', d1, e7, n2, obs, asP_pointer, asB_bool, asI_int, asS_string, asSl_slice, asM_map, asTup0, asTup1, asTup2, asTup3, asTup4, asTup5, asTup6, asTup7, asTup8, asTup9, asAgg2, asAgg3, asAgg4, asAgg5, asAgg6, asAgg7, asAgg8, asAgg9, asAgg12, getD0, getD1, getD2, getD3, getD4, getD5, getD6, getD7, getD8, getD9, getD10, getD11, getD12, getD13, getD14, getD15, getD16, getD17, getD18, getD19, Bool.not_true, Bool.not_false, Bool.false_eq_true, Bool.true_eq_false, ↓reduceIte, decide_true, decide_false, Option.isNone_some, Option.isNone_none, Option.isSome_some, Option.isSome_none, beq_self_eq_true, bne_self_eq_false, Bool.and_true, Bool.true_and, Bool.and_false, Bool.false_and, not_true_eq_false, not_false_eq_true]
    have r2 : g24_l72_b (v1, w4) (some ⟨p, 0, none⟩) u pq (k : Int) 2 w7 = some (.normal, 3, w8) := by
      unfold g24_l72_b
      have q : decide ((2 : Int) < 3) = true := by decide
      simp only [q, i2, d2, e8, n3, obs, asP_pointer, asB_bool, asI_int, asS_string, asSl_slice, asM_map, asTup0, asTup1, asTup2, asTup3, asTup4, asTup5, asTup6, asTup7, asTup8, asTup9, asAgg2, asAgg3, asAgg4, asAgg5, asAgg6, asAgg7, asAgg8, asAgg9, asAgg12, getD0, getD1, getD2, getD3, getD4, getD5, getD6, getD7, getD8, getD9, getD10, getD11, getD12, getD13, getD14, getD15, getD16, getD17, getD18, getD19, Bool.not_true, Bool.not_false, Bool.false_eq_true, Bool.true_eq_false, ↓reduceIte, decide_true, decide_false, Option.isNone_some, Option.isNone_none, Option.isSome_some, Option.isSome_none, beq_self_eq_true, bne_self_eq_false, Bool.and_true, Bool.true_and, Bool.and_false, Bool.false_and, not_true_eq_false, not_false_eq_true]
    have r3 : g24_l72_b (v1, w4) (some ⟨p, 0, none⟩) u pq (k : Int) 3 w8 = some (.exit 4, 3, w8) := by
      unfold g24_l72_b
      have q : decide ((3 : Int) < 3) = false := by decide
      simp only [q, Bool.false_eq_true, if_false]
    have g1 := loopS_next r0 (loopS_next r1 (loopS_next r2 (loopS_out (by simp) r3)))
    rw [g24_l72_x4_of g1, g24_l72_x4, kw]
  have k0 : decide ((k : Int) < (pq.2.1 : Int)) = true := by simp; omega
  refine ⟨w8, ?_, ?_⟩
  · unfold g24_l44_b
    simp only [k0, i1, ld, s1, addr_add, Nat.zero_add, c0, e2, c1, e3, c2, e4, c3, c4, c5, hw5, inner, obs, asP_pointer, asB_bool, asI_int, asS_string, asSl_slice, asM_map, asTup0, asTup1, asTup2, asTup3, asTup4, asTup5, asTup6, asTup7, asTup8, asTup9, asAgg2, asAgg3, asAgg4, asAgg5, asAgg6, asAgg7, asAgg8, asAgg9, asAgg12, getD0, getD1, getD2, getD3, getD4, getD5, getD6, getD7, getD8, getD9, getD10, getD11, getD12, getD13, getD14, getD15, getD16, getD17, getD18, getD19, Bool.not_true, Bool.not_false, Bool.false_eq_true, Bool.true_eq_false, ↓reduceIte, decide_true, decide_false, Option.isNone_some, Option.isNone_none, Option.isSome_some, Option.isSome_none, beq_self_eq_true, bne_self_eq_false, Bool.and_true, Bool.true_and, Bool.and_false, Bool.false_and, not_true_eq_false, not_false_eq_true]
  · have : xs ++ encPart e.v = (((((xs ++ encI e.v.ld) ++ encI e.v.ep) ++ encI e.v.vr) ++ encL e.v.isr) ++ encL e.v.rep) ++ encL e.v.tgt := by simp [encPart]
    rw [this]
    exact h8.up (by omega)
end
end Go.Proofs.Ytjcenfgmpbeldaa

namespace Go.Proofs.Ytjcenfgmpbeldaa
open Go Go.Ev
set_option maxRecDepth 100000
set_option linter.unusedVariables false
set_option linter.unusedSimpArgs false

theorem map_take_succ {α : Type} {f : α → List Int} {l : List α} {k : Nat} (hk : k < l.length) : ((l.take (k + 1)).map f).flatten = ((l.take k).map f).flatten ++ f l[k] := by
  rw [(List.take_append_getElem hk).symm, List.map_append, List.flatten_append]
  simp

theorem bytes24 {W : World} {D : Nat → Prop} {b : Nat} {m : IM} (hI : Img W D b m) (ok : WOk m) (hnx : m.next ≤ 1001) :
    ∃ v w', callF Try.prog 24 #[.pointer (some ⟨b, 0, none⟩)] W = some (.tuple #[.slice v.1 v.2.1 v.2.2, .int .i64 0], w') ∧ Own w' 5 1 v (bytesV (encImg m)) ∧ Fr [] W w' ∧ ∀ y ∈ blkOf v, W.heap.size ≤ y := by
  obtain ⟨c, nq, pq, es, h, hv⟩ := hI
  have hnn := h.nlen
  have hpl := h.plen
  have hel : es.length = m.vs.length := by rw [← hv]; simp
  have hn5 := ok.nl
  have hv6 := ok.vl
  obtain ⟨w1, e1, h1, f1⟩ := new50 W
  have B1 : WB W w1 W.heap.size [] 0 := ⟨_, h1, f1, by simp⟩
  obtain ⟨p, hp⟩ : ∃ p, W.heap.size = p := ⟨_, rfl⟩
  rw [hp] at e1 B1
  have cN : ∀ {x : World} {ys : List Int} {M : Nat}, WB W x p ys M → x.cell? ⟨b, 0, none⟩ = some (.slice nq.1 nq.2.1 nq.2.2) := fun hx => (h.fr hx.fr (by simp)).tbl.cell 0
  have cP : ∀ {x : World} {ys : List Int} {M : Nat}, WB W x p ys M → x.cell? ⟨b, 1, none⟩ = some (.slice pq.1 pq.2.1 pq.2.2) := fun hx => (h.fr hx.fr (by simp)).tbl.cell 1
  have cC : ∀ {x : World} {ys : List Int} {M : Nat}, WB W x p ys M → x.cell? ⟨b, 2, none⟩ = some (.pointer (some ⟨c, 0, none⟩)) := fun hx => (h.fr hx.fr (by simp)).tbl.cell 2
  have cT : ∀ {x : World} {ys : List Int} {M : Nat}, WB W x p ys M → x.cell? ⟨b, 3, none⟩ = some (.int .i64 m.count) := fun hx => (h.fr hx.fr (by simp)).tbl.cell 3
  have wn : IntKind.u64.wrap (nq.2.1 : Int) = ((m.ns.length : Nat) : Int) := by rw [wrap_u64 (by omega) (by omega)]; omega
  have wp : IntKind.u64.wrap (pq.2.1 : Int) = ((m.vs.length : Nat) : Int) := by rw [wrap_u64 (by omega) (by omega)]; omega
  obtain ⟨w2, e2, B2, _⟩ := B1.uint (n := m.ns.length) (by omega) (by omega)
  obtain ⟨t, w3, g3, rfl, B3⟩ := loopS_countX 0 (b := g24_l12_b nq (some ⟨p, 0, none⟩) (some ⟨b, 0, none⟩)) (n := m.ns.length)
    (I := fun k s x => s = (k : Int) ∧ WB W x p (([] ++ encU m.ns.length) ++ ((m.ns.take k).map encNode).flatten) (10 + 30 * k))
    (fun k s x hk ⟨hs, hB⟩ => by
      subst hs
      obtain ⟨w', e, B⟩ := bytes_node h hB hk (by omega) (ok.ns _ (List.getElem_mem hk)) (by omega) (some ⟨b, 0, none⟩)
      rw [List.append_assoc, ← map_take_succ hk] at B
      exact ⟨_, w', e, rfl, B.up (by omega)⟩)
    (fun s x ⟨hs, hB⟩ => by
      subst hs
      have kk : decide ((m.ns.length : Int) < (nq.2.1 : Int)) = false := by simp; omega
      unfold g24_l12_b
      simp only [kk, Bool.false_eq_true, if_false]) (k := 0) (s := 0) (w := w2) (Nat.zero_le _) ⟨rfl, by simpa using B2⟩
  obtain ⟨w4, e4, B4, _⟩ := B3.uint (n := m.vs.length) (by omega) (by omega)
  obtain ⟨t, w5, g5, rfl, B5⟩ := loopS_countX 2 (b := g24_l44_b pq (some ⟨p, 0, none⟩) (some ⟨b, 0, none⟩)) (n := m.vs.length)
    (I := fun k s x => s = (k : Int) ∧ WB W x p ((([] ++ encU m.ns.length) ++ ((m.ns.take m.ns.length).map encNode).flatten ++ encU m.vs.length) ++ ((m.vs.take k).map encPart).flatten) (170 + 150000 * k))
    (fun k s x hk ⟨hs, hB⟩ => by
      subst hs
      have hvk : es[k].v = m.vs[k] := by simp [← hv]
      obtain ⟨w', e, B⟩ := bytes_part h hB (k := k) (by omega) (by omega) (by rw [hvk]; exact ok.vs _ (List.getElem_mem hk)) (by omega) (some ⟨b, 0, none⟩)
      rw [hvk, List.append_assoc, ← map_take_succ hk] at B
      exact ⟨_, w', e, rfl, B.up (by omega)⟩)
    (fun s x ⟨hs, hB⟩ => by
      subst hs
      have kk : decide ((m.vs.length : Int) < (pq.2.1 : Int)) = false := by simp; omega
      unfold g24_l44_b
      simp only [kk, Bool.false_eq_true, if_false]) (k := 0) (s := 0) (w := w4) (Nat.zero_le _) ⟨rfl, by simpa using B4.up (by omega)⟩
  have hx5 := h.fr B5.fr (by simp)
  have e6 := left42 hx5.ct ok.nx.1 hnx (by decide)
  have B6 := B5.aside (Fr.drew [] w5)
  obtain ⟨w6, hw6⟩ : ∃ w6, w5.drew = w6 := ⟨_, rfl⟩
  rw [hw6] at e6 B6
  obtain ⟨w7, e7, B7, _⟩ := B6.uint (n := m.next.toNat) (by have := ok.nx; omega) (by omega)
  have hn7 : ((m.next.toNat : Nat) : Int) = m.next := by have := ok.nx; omega
  rw [hn7] at e7
  obtain ⟨w8, e8, B8, _⟩ := B7.int ok.ct (by omega)
  obtain ⟨v, w9, e9, o9, f9, n9⟩ := B8.out (by omega)
  refine ⟨v, w9, g24_call ?_, ?_, f9, n9⟩
  · have k0 : (some (⟨b, 0, none⟩ : Addr)).isNone = false := rfl
    have tail : ∀ t, g24_l44_x2 (some ⟨b, 0, none⟩) (some ⟨p, 0, none⟩) t w5 = some (.tuple #[.slice v.1 v.2.1 v.2.2, .int .i64 0], w9) := by
      intro t
      unfold g24_l44_x2
      simp only [addr_add, Nat.zero_add, cC B5, e6, e7, cT B7, e8, e9, obs, asP_pointer, asB_bool, asI_int, asS_string, asSl_slice, asM_map, asTup0, asTup1, asTup2, asTup3, asTup4, asTup5, asTup6, asTup7, asTup8, asTup9, asAgg2, asAgg3, asAgg4, asAgg5, asAgg6, asAgg7, asAgg8, asAgg9, asAgg12, getD0, getD1, getD2, getD3, getD4, getD5, getD6, getD7, getD8, getD9, getD10, getD11, getD12, getD13, getD14, getD15, getD16, getD17, getD18, getD19, Bool.not_true, Bool.not_false, Bool.false_eq_true, Bool.true_eq_false, ↓reduceIte, decide_true, decide_false, Option.isNone_some, Option.isNone_none, Option.isSome_some, Option.isSome_none, beq_self_eq_true, bne_self_eq_false, Bool.and_true, Bool.true_and, Bool.and_false, Bool.false_and, not_true_eq_false, not_false_eq_true]
    have mid : ∀ t, g24_l12_x0 (some ⟨b, 0, none⟩) (some ⟨p, 0, none⟩) t w3 = some (.tuple #[.slice v.1 v.2.1 v.2.2, .int .i64 0], w9) := by
      intro t
      unfold g24_l12_x0
      simp only [addr_add, Nat.zero_add, cP B3, wp, e4, cP B4, obs, asP_pointer, asB_bool, asI_int, asS_string, asSl_slice, asM_map, asTup0, asTup1, asTup2, asTup3, asTup4, asTup5, asTup6, asTup7, asTup8, asTup9, asAgg2, asAgg3, asAgg4, asAgg5, asAgg6, asAgg7, asAgg8, asAgg9, asAgg12, getD0, getD1, getD2, getD3, getD4, getD5, getD6, getD7, getD8, getD9, getD10, getD11, getD12, getD13, getD14, getD15, getD16, getD17, getD18, getD19, Bool.not_true, Bool.not_false, Bool.false_eq_true, Bool.true_eq_false, ↓reduceIte, decide_true, decide_false, Option.isNone_some, Option.isNone_none, Option.isSome_some, Option.isSome_none, beq_self_eq_true, bne_self_eq_false, Bool.and_true, Bool.true_and, Bool.and_false, Bool.false_and, not_true_eq_false, not_false_eq_true]
      rw [g24_l44_x2_of g5]
      exact tail _
    unfold g24
    rw [if_neg (by rw [k0]; exact Bool.false_ne_true)]
    simp only [hp, e1, cN B1, wn, e2, cN B2, obs, asP_pointer, asB_bool, asI_int, asS_string, asSl_slice, asM_map, asTup0, asTup1, asTup2, asTup3, asTup4, asTup5, asTup6, asTup7, asTup8, asTup9, asAgg2, asAgg3, asAgg4, asAgg5, asAgg6, asAgg7, asAgg8, asAgg9, asAgg12, getD0, getD1, getD2, getD3, getD4, getD5, getD6, getD7, getD8, getD9, getD10, getD11, getD12, getD13, getD14, getD15, getD16, getD17, getD18, getD19, Bool.not_true, Bool.not_false, Bool.false_eq_true, Bool.true_eq_false, ↓reduceIte, decide_true, decide_false, Option.isNone_some, Option.isNone_none, Option.isSome_some, Option.isSome_none, beq_self_eq_true, bne_self_eq_false, Bool.and_true, Bool.true_and, Bool.and_false, Bool.false_and, not_true_eq_false, not_false_eq_true]
    rw [g24_l12_x0_of g3]
    exact mid _
  · have : encImg m = (((([] ++ encU m.ns.length) ++ ((m.ns.take m.ns.length).map encNode).flatten ++ encU m.vs.length) ++ ((m.vs.take m.vs.length).map encPart).flatten) ++ encU m.next.toNat) ++ encI m.count := by
      simp [encImg]
    rw [this]
    exact o9
end Go.Proofs.Ytjcenfgmpbeldaa

namespace Go.Proofs.Ytjcenfgmpbeldaa
open Go Go.Ev
set_option maxRecDepth 100000
set_option linter.unusedVariables false
set_option linter.unusedSimpArgs false

/-- a text under way, in cells that were made after W -/
def WS (W w : World) (v : ShT) (xs : List Int) (N : Nat) : Prop := Own w 5 1 v (bytesV xs) ∧ Fr [] W w ∧ (∀ y ∈ blkOf v, W.heap.size ≤ y) ∧ xs.length ≤ N
def K5 (w w' : World) : Prop := ∀ nb cs (T : TypeId), T ≠ 5 → Blk w nb cs T → Blk w' nb cs T

section
variable {W w : World} {v : ShT} {xs : List Int} {N : Nat}
theorem WS.fr (h : WS W w v xs N) : Fr [] W w := h.2.1
theorem WS.up (h : WS W w v xs N) {M : Nat} (hm : N ≤ M) : WS W w v xs M := ⟨h.1, h.2.1, h.2.2.1, by have := h.2.2.2; omega⟩
theorem WS.aside (h : WS W w v xs N) {w' : World} (f : Fr [] w w') : WS W w' v xs N := ⟨h.1.fr f (by simp), (Fr.mono (Fr.app h.2.1 f) (by have z0_ := Fr.size h.2.1; have z1_ := Fr.size f; intro y_ hy_ hl_; grind [blkOf])), h.2.2.1, h.2.2.2⟩

theorem WS.add (h : WS W w v xs N) {w1 : World} {u : ShT} {ys : List Int} {M : Nat} (f : Fr [] w w1) (ou : Own w1 5 1 u (bytesV ys)) (hM : ys.length ≤ M) (hN : N ≤ 100000000) (hM2 : M ≤ 100000000) :
    ∃ (v' : ShT) (w2 : World), callB Try.prog .append #[43, 43] 43 #[false, false] #[.slice v.1 v.2.1 v.2.2, .slice u.1 u.2.1 u.2.2] w1 = some (.slice v'.1 v'.2.1 v'.2.2, w2) ∧ WS W w2 v' (xs ++ ys) (N + M) ∧ K5 w w2 := by
  obtain ⟨o, hf, hn, hl⟩ := h
  have o1 := o.fr f (by simp)
  obtain ⟨v', w2, e, o2, f2, n2⟩ := puts1 o1 ou (by omega) (by omega)
  have z1 := f.size
  have z2 := hf.size
  have F1 : Fr [] W w1 := (Fr.mono (Fr.app hf f) (by have z0_ := Fr.size hf; have z1_ := Fr.size f; intro y_ hy_ hl_; grind [blkOf]))
  refine ⟨v', w2, e, ⟨o2, fr_new F1 hn f2, fun y hy => ?_, by simp; omega⟩, fun nb cs T t5 hb => (hb.fr f (by simp)).fr f2 ((hb.fr f (by simp)).notin o1 t5)⟩
  rcases n2 y hy with hy | hy
  · exact hn y hy
  · omega

theorem WS.uint (h : WS W w v xs N) {n : Nat} (hn : n < 2 ^ 64) (hN : N ≤ 10000000) :
    ∃ (u : ShT) (w1 : World) (v' : ShT) (w2 : World), callF Try.prog 65 #[.int .u64 (n : Int)] w = some (.slice u.1 u.2.1 u.2.2, w1) ∧ callB Try.prog .append #[43, 43] 43 #[false, false] #[.slice v.1 v.2.1 v.2.2, .slice u.1 u.2.1 u.2.2] w1 = some (.slice v'.1 v'.2.1 v'.2.2, w2) ∧ Fr [] W w1 ∧ WS W w2 v' (xs ++ encU n) (N + 10) ∧ K5 w w2 := by
  obtain ⟨u, w1, e1, o1, f1, _⟩ := uint42 w hn
  obtain ⟨v', w2, e2, h2, k2⟩ := h.add f1 o1 (encU_len10 hn) (by omega) (by omega)
  exact ⟨u, w1, v', w2, e1, e2, (Fr.mono (Fr.app h.2.1 f1) (by have z0_ := Fr.size h.2.1; have z1_ := Fr.size f1; intro y_ hy_ hl_; grind [blkOf])), h2, k2⟩
theorem WS.int (h : WS W w v xs N) {z : Int} (hz : IR z) (hN : N ≤ 10000000) :
    ∃ (u : ShT) (w1 : World) (v' : ShT) (w2 : World), callF Try.prog 50 #[.int .i64 z] w = some (.slice u.1 u.2.1 u.2.2, w1) ∧ callB Try.prog .append #[43, 43] 43 #[false, false] #[.slice v.1 v.2.1 v.2.2, .slice u.1 u.2.1 u.2.2] w1 = some (.slice v'.1 v'.2.1 v'.2.2, w2) ∧ Fr [] W w1 ∧ WS W w2 v' (xs ++ encI z) (N + 10) ∧ K5 w w2 := by
  obtain ⟨u, w1, e1, o1, f1, _⟩ := int41 w hz
  obtain ⟨v', w2, e2, h2, k2⟩ := h.add f1 o1 (encU_len10 (zig_lt hz)) (by omega) (by omega)
  exact ⟨u, w1, v', w2, e1, e2, (Fr.mono (Fr.app h.2.1 f1) (by have z0_ := Fr.size h.2.1; have z1_ := Fr.size f1; intro y_ hy_ hl_; grind [blkOf])), h2, k2⟩
theorem WS.flag (h : WS W w v xs N) (b : Bool) (hN : N ≤ 10000000) :
    ∃ (u : ShT) (w1 : World) (v' : ShT) (w2 : World), callF Try.prog 66 #[.bool b] w = some (.slice u.1 u.2.1 u.2.2, w1) ∧ callB Try.prog .append #[43, 43] 43 #[false, false] #[.slice v.1 v.2.1 v.2.2, .slice u.1 u.2.1 u.2.2] w1 = some (.slice v'.1 v'.2.1 v'.2.2, w2) ∧ Fr [] W w1 ∧ WS W w2 v' (xs ++ encF b) (N + 10) ∧ K5 w w2 := by
  obtain ⟨u, w1, e1, o1, f1, _⟩ := flag44 w b
  obtain ⟨v', w2, e2, h2, k2⟩ := h.add f1 o1 (M := 10) (by simp [encF]) (by omega) (by omega)
  exact ⟨u, w1, v', w2, e1, e2, (Fr.mono (Fr.app h.2.1 f1) (by have z0_ := Fr.size h.2.1; have z1_ := Fr.size f1; intro y_ hy_ hl_; grind [blkOf])), h2, k2⟩
theorem WS.ints (h : WS W w v xs N) {q : ShT} {l : List Int} (hu : SlI .i64 W q l) (hz : ∀ z ∈ l, IR z) (hl : l.length ≤ 4096) (hN : N ≤ 10000000) :
    ∃ (u : ShT) (w1 : World) (v' : ShT) (w2 : World), callF Try.prog 51 #[.slice q.1 q.2.1 q.2.2] w = some (.slice u.1 u.2.1 u.2.2, w1) ∧ callB Try.prog .append #[43, 43] 43 #[false, false] #[.slice v.1 v.2.1 v.2.2, .slice u.1 u.2.1 u.2.2] w1 = some (.slice v'.1 v'.2.1 v'.2.2, w2) ∧ Fr [] W w1 ∧ WS W w2 v' (xs ++ encL l) (N + 41000) ∧ K5 w w2 := by
  obtain ⟨u, w1, e1, o1, f1, _⟩ := ints43 (hu.fr3 h.2.1 (by simp)) hz (by omega)
  obtain ⟨v', w2, e2, h2, k2⟩ := h.add f1 o1 (M := 41000) (by have := encL_len2 hz; omega) (by omega) (by omega)
  exact ⟨u, w1, v', w2, e1, e2, (Fr.mono (Fr.app h.2.1 f1) (by have z0_ := Fr.size h.2.1; have z1_ := Fr.size f1; intro y_ hy_ hl_; grind [blkOf])), h2, k2⟩
end

section
variable {W w : World} {E : Nat → Prop} {p N : Nat} {qa qc qb qp : Sh} {es : List PE} {m : IM} {v : ShT} {xs : List Int}

theorem rbytes_node (h : RefR W E p qa qc qb qp es m) (hw : WS W w v xs N) {k : Nat} (hk : k < m.ns.length) (hl : m.ns.length ≤ 1000) (ok : NOk m.ns[k]) (hN : N ≤ 1000000) :
    ∃ v' w', g33_l7_b (some ⟨p, 0, none⟩) (v, (k : Int)) w = some (.normal, (v', ((k + 1 : Nat) : Int)), w') ∧ WS W w' v' (xs ++ encNode m.ns[k]) (N + 30) := by
  have hal := h.oa.len
  simp only [List.length_map, Nat.mul_one] at hal
  have R : ∀ {x : World}, Fr [] W x → RefR x E p qa qc qb qp es m := fun f => h.fr f (by simp)
  have c0 : ∀ {x : World}, Fr [] W x → x.cell? ⟨p, 0, none⟩ = some (.slice qa.1 qa.2.1 qa.2.2) := fun f => (R f).blk.cell 0
  have c1 : ∀ {x : World}, Fr [] W x → x.cell? ⟨p, 1, none⟩ = some (.slice qc.1 qc.2.1 qc.2.2) := fun f => (R f).blk.cell 1
  have c2 : ∀ {x : World}, Fr [] W x → x.cell? ⟨p, 2, none⟩ = some (.slice qb.1 qb.2.1 qb.2.2) := fun f => (R f).blk.cell 2
  obtain ⟨a0, i0, r0⟩ := one_get (R hw.fr).oa hk
  obtain ⟨u1, y1, v1, w1, e1, g1, _, h1, _⟩ := hw.flag m.ns[k].al (by omega)
  obtain ⟨a1, i1, r1⟩ := one_get (R h1.fr).oc hk
  obtain ⟨u2, y2, v2, w2, e2, g2, _, h2, _⟩ := h1.int ok.cm (by omega)
  obtain ⟨a2, i2, r2⟩ := one_get (R h2.fr).ob hk
  obtain ⟨u3, y3, v3, w3, e3, g3, _, h3, _⟩ := h2.uint (n := m.ns[k].bk.toNat) (by have := ok.bk; omega) (by omega)
  have hb : ((m.ns[k].bk.toNat : Nat) : Int) = m.ns[k].bk := by have := ok.bk; omega
  rw [hb] at e3
  have k0 : decide ((k : Int) < (qa.2.1 : Int)) = true := by simp; omega
  have kw := wrap_succ (n := k) (by omega)
  refine ⟨v3, w3, ?_, ?_⟩
  · unfold g33_l7_b
    simp only [addr_add, Nat.zero_add, c0 hw.fr, k0, i0, r0, e1, g1, c1 h1.fr, i1, r1, e2, g2, c2 h2.fr, i2, r2, e3, g3, kw, obs, asP_pointer, asB_bool, asI_int, asS_string, asSl_slice, asM_map, asTup0, asTup1, asTup2, asTup3, asTup4, asTup5, asTup6, asTup7, asTup8, asTup9, asAgg2, asAgg3, asAgg4, asAgg5, asAgg6, asAgg7, asAgg8, asAgg9, asAgg12, getD0, getD1, getD2, getD3, getD4, getD5, getD6, getD7, getD8, getD9, getD10, getD11, getD12, getD13, getD14, getD15, getD16, getD17, getD18, getD19, Bool.not_true, Bool.not_false, Bool.false_eq_true, Bool.true_eq_false, ↓reduceIte, decide_true, decide_false, Option.isNone_some, Option.isNone_none, Option.isSome_some, Option.isSome_none, beq_self_eq_true, bne_self_eq_false, Bool.and_true, Bool.true_and, Bool.and_false, Bool.false_and, not_true_eq_false, not_false_eq_true]
  · have : xs ++ encNode m.ns[k] = ((xs ++ encF m.ns[k].al) ++ encI m.ns[k].cm) ++ encU m.ns[k].bk.toNat := by simp [encNode]
    rw [this]
    exact h3.up (by omega)

theorem rbytes_part (h : RefR W E p qa qc qb qp es m) (hw : WS W w v xs N) {k : Nat} (hk : k < es.length) (hl : es.length ≤ 1000) (ok : POk es[k].v) (hN : N ≤ 1000000) :
    ∃ v' w', g33_l57_b (some ⟨p, 0, none⟩) (v, (k : Int)) w = some (.normal, (v', ((k + 1 : Nat) : Int)), w') ∧ WS W w' v' (xs ++ encPart es[k].v) (N + 150000) := by
  have hpl := h.op.len
  rw [ptCs_len] at hpl
  have hx := h.fr hw.fr (by simp)
  obtain ⟨g, off, qa', i1, rr, _⟩ := row_at (f := PE.cs) pef_len (by decide) hx.op (ptCs_len es) hk
  have ld : ldN w ⟨g, off + k * 6, none⟩ 0 6 = some (es[k].cs) := ldN_of_cells (cs := es[k].cs) (i := 0) fun i hi => by
    rw [addr_add, Nat.zero_add, rr i hi, List.getElem?_eq_getElem hi]
  have pk := h.ok _ (List.getElem_mem hk)
  obtain ⟨e, he⟩ : ∃ e, es[k] = e := ⟨_, rfl⟩
  rw [he] at ld ok pk ⊢
  simp only [PE.cs, PV.cs] at ld
  obtain ⟨w1, s1, b1, f1, _⟩ := newP w e.v e.qi e.qr e.qt
  have c3' : w.cell? ⟨p, 3, none⟩ = some (.slice qp.1 qp.2.1 qp.2.2) := hx.blk.cell 3
  have c0 : w1.cell? ⟨w.heap.size, 0, none⟩ = some (.int .i64 e.v.ld) := b1.cell 0
  obtain ⟨u2, y2, v2, w2, e2, g2, _, h2, k2⟩ := (hw.aside f1).int ok.ld (by omega)
  have b2 := k2 _ _ _ (by decide) b1
  have c1 : w2.cell? ⟨w.heap.size, 1, none⟩ = some (.int .i64 e.v.ep) := b2.cell 1
  obtain ⟨u3, y3, v3, w3, e3, g3, _, h3, k3⟩ := h2.int ok.ep (by omega)
  have b3 := k3 _ _ _ (by decide) b2
  have c2 : w3.cell? ⟨w.heap.size, 2, none⟩ = some (.int .i64 e.v.vr) := b3.cell 2
  obtain ⟨u4, y4, v4, w4, e4, g4, _, h4, k4⟩ := h3.int ok.vr (by omega)
  have b4 := k4 _ _ _ (by decide) b3
  have c3 : w4.cell? ⟨w.heap.size, 3, none⟩ = some (.slice e.qi.1 e.qi.2.1 e.qi.2.2) := b4.cell 3
  obtain ⟨u5, y5, v5, w5, e5, g5, _, h5, k5⟩ := h4.ints pk.oi.slI ok.isr.2 ok.isr.1 (by omega)
  have b5 := k5 _ _ _ (by decide) b4
  have c4 : w5.cell? ⟨w.heap.size, 4, none⟩ = some (.slice e.qr.1 e.qr.2.1 e.qr.2.2) := b5.cell 4
  obtain ⟨u6, y6, v6, w6, e6, g6, _, h6, k6⟩ := h5.ints pk.or_.slI ok.rep.2 ok.rep.1 (by omega)
  have b6 := k6 _ _ _ (by decide) b5
  have c5 : w6.cell? ⟨w.heap.size, 5, none⟩ = some (.slice e.qt.1 e.qt.2.1 e.qt.2.2) := b6.cell 5
  obtain ⟨u7, y7, v7, w7, e7, g7, _, h7, k7⟩ := h6.ints pk.ot.slI ok.tgt.2 ok.tgt.1 (by omega)
  have k0 : decide ((k : Int) < (qp.2.1 : Int)) = true := by simp; omega
  have kw := wrap_succ (n := k) (by omega)
  refine ⟨v7, w7, ?_, ?_⟩
  · unfold g33_l57_b
    simp only [addr_add, Nat.zero_add, c3', k0, i1, ld, s1, c0, e2, g2, c1, e3, g3, c2, e4, g4, c3, e5, g5, c4, e6, g6, c5, e7, g7, kw, obs, asP_pointer, asB_bool, asI_int, asS_string, asSl_slice, asM_map, asTup0, asTup1, asTup2, asTup3, asTup4, asTup5, asTup6, asTup7, asTup8, asTup9, asAgg2, asAgg3, asAgg4, asAgg5, asAgg6, asAgg7, asAgg8, asAgg9, asAgg12, getD0, getD1, getD2, getD3, getD4, getD5, getD6, getD7, getD8, getD9, getD10, getD11, getD12, getD13, getD14, getD15, getD16, getD17, getD18, getD19, Bool.not_true, Bool.not_false, Bool.false_eq_true, Bool.true_eq_false, ↓reduceIte, decide_true, decide_false, Option.isNone_some, Option.isNone_none, Option.isSome_some, Option.isSome_none, beq_self_eq_true, bne_self_eq_false, Bool.and_true, Bool.true_and, Bool.and_false, Bool.false_and, not_true_eq_false, not_false_eq_true]
  · have : xs ++ encPart e.v = (((((xs ++ encI e.v.ld) ++ encI e.v.ep) ++ encI e.v.vr) ++ encL e.v.isr) ++ encL e.v.rep) ++ encL e.v.tgt := by simp [encPart]
    rw [this]
    exact h7.up (by omega)

theorem rbytes33 (hR : Ref W E p m) (ok : WOk m) :
    ∃ v w', callF Try.prog 33 #[.pointer (some ⟨p, 0, none⟩)] W = some (.slice v.1 v.2.1 v.2.2, w') ∧ Own w' 5 1 v (bytesV (encImg m)) ∧ Fr [] W w' ∧ ∀ y ∈ blkOf v, W.heap.size ≤ y := by
  obtain ⟨qa, qc, qb, qp, es, h⟩ := hR
  have hal := h.oa.len
  simp only [List.length_map, Nat.mul_one] at hal
  have hpl := h.op.len
  rw [ptCs_len] at hpl
  have hel : es.length = m.vs.length := by rw [← h.vs]; simp
  have hn5 := ok.nl
  have hv6 := ok.vl
  have R : ∀ {x : World}, Fr [] W x → RefR x E p qa qc qb qp es m := fun f => h.fr f (by simp)
  have c0 : ∀ {x : World}, Fr [] W x → x.cell? ⟨p, 0, none⟩ = some (.slice qa.1 qa.2.1 qa.2.2) := fun f => (R f).blk.cell 0
  have c3 : ∀ {x : World}, Fr [] W x → x.cell? ⟨p, 3, none⟩ = some (.slice qp.1 qp.2.1 qp.2.2) := fun f => (R f).blk.cell 3
  have c4 : ∀ {x : World}, Fr [] W x → x.cell? ⟨p, 4, none⟩ = some (.int .u64 m.next) := fun f => (R f).blk.cell 4
  have c5 : ∀ {x : World}, Fr [] W x → x.cell? ⟨p, 5, none⟩ = some (.int .i64 m.count) := fun f => (R f).blk.cell 5
  have wn : IntKind.u64.wrap (qa.2.1 : Int) = ((m.ns.length : Nat) : Int) := by rw [wrap_u64 (by omega) (by omega)]; omega
  have wp : IntKind.u64.wrap (qp.2.1 : Int) = ((m.vs.length : Nat) : Int) := by rw [wrap_u64 (by omega) (by omega)]; omega
  obtain ⟨v1, w1, e1, o1, f1, n1⟩ := uint42 W (n := m.ns.length) (by omega)
  have S1 : WS W w1 v1 (encU m.ns.length) 10 := ⟨o1, f1, n1, encU_len10 (by omega)⟩
  obtain ⟨t, w2, g2, hz2, v2, ht2, S2⟩ := loopS_countX 0 (b := g33_l7_b (some ⟨p, 0, none⟩)) (n := m.ns.length)
    (I := fun k s x => s.2 = (k : Int) ∧ ∃ v2, s.1 = v2 ∧ WS W x v2 (encU m.ns.length ++ ((m.ns.take k).map encNode).flatten) (10 + 30 * k))
    (fun k s x hk ⟨hs, v2, hv, hS⟩ => by
      obtain ⟨s1, s2⟩ := s
      simp only at hs hv
      subst hs hv
      obtain ⟨v', w', e, S⟩ := rbytes_node h hS hk (by omega) (ok.ns _ (List.getElem_mem hk)) (by omega)
      rw [List.append_assoc, ← map_take_succ hk] at S
      exact ⟨_, w', e, rfl, _, rfl, S.up (by omega)⟩)
    (fun s x ⟨hs, v2, hv, hS⟩ => by
      obtain ⟨s1, s2⟩ := s
      simp only at hs hv
      subst hs hv
      have kk : decide ((m.ns.length : Int) < (qa.2.1 : Int)) = false := by simp; omega
      unfold g33_l7_b
      simp only [addr_add, Nat.zero_add, c0 hS.fr, kk, obs, asP_pointer, asB_bool, asI_int, asS_string, asSl_slice, asM_map, asTup0, asTup1, asTup2, asTup3, asTup4, asTup5, asTup6, asTup7, asTup8, asTup9, asAgg2, asAgg3, asAgg4, asAgg5, asAgg6, asAgg7, asAgg8, asAgg9, asAgg12, getD0, getD1, getD2, getD3, getD4, getD5, getD6, getD7, getD8, getD9, getD10, getD11, getD12, getD13, getD14, getD15, getD16, getD17, getD18, getD19, Bool.not_true, Bool.not_false, Bool.false_eq_true, Bool.true_eq_false, ↓reduceIte, decide_true, decide_false, Option.isNone_some, Option.isNone_none, Option.isSome_some, Option.isSome_none, beq_self_eq_true, bne_self_eq_false, Bool.and_true, Bool.true_and, Bool.and_false, Bool.false_and, not_true_eq_false, not_false_eq_true]) (k := 0) (s := (v1, 0)) (w := w1) (Nat.zero_le _) ⟨rfl, _, rfl, by simpa using S1⟩
  obtain ⟨t1, t2⟩ := t
  simp only at hz2 ht2
  subst hz2 ht2
  obtain ⟨u3, y3, v3, w3, e3, g3, _, S3, _⟩ := S2.uint (n := m.vs.length) (by omega) (by omega)
  obtain ⟨t, w4, g4, hz4, v4, ht4, S4⟩ := loopS_countX 2 (b := g33_l57_b (some ⟨p, 0, none⟩)) (n := m.vs.length)
    (I := fun k s x => s.2 = (k : Int) ∧ ∃ v2, s.1 = v2 ∧ WS W x v2 ((encU m.ns.length ++ ((m.ns.take m.ns.length).map encNode).flatten ++ encU m.vs.length) ++ ((m.vs.take k).map encPart).flatten) (170 + 150000 * k))
    (fun k s x hk ⟨hs, v2, hv, hS⟩ => by
      obtain ⟨s1, s2⟩ := s
      simp only at hs hv
      subst hs hv
      have hvk : es[k].v = m.vs[k] := by simp [← h.vs]
      obtain ⟨v', w', e, S⟩ := rbytes_part h hS (k := k) (by omega) (by omega) (by rw [hvk]; exact ok.vs _ (List.getElem_mem hk)) (by omega)
      rw [hvk, List.append_assoc, ← map_take_succ hk] at S
      exact ⟨_, w', e, rfl, _, rfl, S.up (by omega)⟩)
    (fun s x ⟨hs, v2, hv, hS⟩ => by
      obtain ⟨s1, s2⟩ := s
      simp only at hs hv
      subst hs hv
      have kk : decide ((m.vs.length : Int) < (qp.2.1 : Int)) = false := by simp; omega
      unfold g33_l57_b
      simp only [addr_add, Nat.zero_add, c3 hS.fr, kk, obs, asP_pointer, asB_bool, asI_int, asS_string, asSl_slice, asM_map, asTup0, asTup1, asTup2, asTup3, asTup4, asTup5, asTup6, asTup7, asTup8, asTup9, asAgg2, asAgg3, asAgg4, asAgg5, asAgg6, asAgg7, asAgg8, asAgg9, asAgg12, getD0, getD1, getD2, getD3, getD4, getD5, getD6, getD7, getD8, getD9, getD10, getD11, getD12, getD13, getD14, getD15, getD16, getD17, getD18, getD19, Bool.not_true, Bool.not_false, Bool.false_eq_true, Bool.true_eq_false, ↓reduceIte, decide_true, decide_false, Option.isNone_some, Option.isNone_none, Option.isSome_some, Option.isSome_none, beq_self_eq_true, bne_self_eq_false, Bool.and_true, Bool.true_and, Bool.and_false, Bool.false_and, not_true_eq_false, not_false_eq_true]) (k := 0) (s := (v3, 0)) (w := w3) (Nat.zero_le _) ⟨rfl, _, rfl, by simpa using S3.up (by omega)⟩
  obtain ⟨z1, z2⟩ := t
  simp only at hz4 ht4
  subst hz4 ht4
  obtain ⟨u5, y5, v5, w5, e5, g5, _, S5, _⟩ := S4.uint (n := m.next.toNat) (by have := ok.nx; omega) (by omega)
  have hn5' : ((m.next.toNat : Nat) : Int) = m.next := by have := ok.nx; omega
  rw [hn5'] at e5
  obtain ⟨u6, y6, v6, w6, e6, g6, _, S6, _⟩ := S5.int ok.ct (by omega)
  refine ⟨v6, w6, g33_call ?_, ?_, S6.fr, S6.2.2.1⟩
  · have tail : ∀ z, g33_l57_x2 (some ⟨p, 0, none⟩) (z1, z) w4 = some (.slice v6.1 v6.2.1 v6.2.2, w6) := by
      intro z
      unfold g33_l57_x2
      simp only [addr_add, Nat.zero_add, c4 S4.fr, e5, g5, c5 S5.fr, e6, g6, obs, asP_pointer, asB_bool, asI_int, asS_string, asSl_slice, asM_map, asTup0, asTup1, asTup2, asTup3, asTup4, asTup5, asTup6, asTup7, asTup8, asTup9, asAgg2, asAgg3, asAgg4, asAgg5, asAgg6, asAgg7, asAgg8, asAgg9, asAgg12, getD0, getD1, getD2, getD3, getD4, getD5, getD6, getD7, getD8, getD9, getD10, getD11, getD12, getD13, getD14, getD15, getD16, getD17, getD18, getD19, Bool.not_true, Bool.not_false, Bool.false_eq_true, Bool.true_eq_false, ↓reduceIte, decide_true, decide_false, Option.isNone_some, Option.isNone_none, Option.isSome_some, Option.isSome_none, beq_self_eq_true, bne_self_eq_false, Bool.and_true, Bool.true_and, Bool.and_false, Bool.false_and, not_true_eq_false, not_false_eq_true]
    have mid : ∀ z, g33_l7_x0 (some ⟨p, 0, none⟩) (t1, z) w2 = some (.slice v6.1 v6.2.1 v6.2.2, w6) := by
      intro z
      unfold g33_l7_x0
      simp only [addr_add, Nat.zero_add, c3 S2.fr, wp, e3, g3, obs, asP_pointer, asB_bool, asI_int, asS_string, asSl_slice, asM_map, asTup0, asTup1, asTup2, asTup3, asTup4, asTup5, asTup6, asTup7, asTup8, asTup9, asAgg2, asAgg3, asAgg4, asAgg5, asAgg6, asAgg7, asAgg8, asAgg9, asAgg12, getD0, getD1, getD2, getD3, getD4, getD5, getD6, getD7, getD8, getD9, getD10, getD11, getD12, getD13, getD14, getD15, getD16, getD17, getD18, getD19, Bool.not_true, Bool.not_false, Bool.false_eq_true, Bool.true_eq_false, ↓reduceIte, decide_true, decide_false, Option.isNone_some, Option.isNone_none, Option.isSome_some, Option.isSome_none, beq_self_eq_true, bne_self_eq_false, Bool.and_true, Bool.true_and, Bool.and_false, Bool.false_and, not_true_eq_false, not_false_eq_true]
      rw [g33_l57_x2_of g4]
      exact tail _
    unfold g33
    simp only [c0 (Fr.refl _ _), wn, e1, obs, asP_pointer, asB_bool, asI_int, asS_string, asSl_slice, asM_map, asTup0, asTup1, asTup2, asTup3, asTup4, asTup5, asTup6, asTup7, asTup8, asTup9, asAgg2, asAgg3, asAgg4, asAgg5, asAgg6, asAgg7, asAgg8, asAgg9, asAgg12, getD0, getD1, getD2, getD3, getD4, getD5, getD6, getD7, getD8, getD9, getD10, getD11, getD12, getD13, getD14, getD15, getD16, getD17, getD18, getD19, Bool.not_true, Bool.not_false, Bool.false_eq_true, Bool.true_eq_false, ↓reduceIte, decide_true, decide_false, Option.isNone_some, Option.isNone_none, Option.isSome_some, Option.isSome_none, beq_self_eq_true, bne_self_eq_false, Bool.and_true, Bool.true_and, Bool.and_false, Bool.false_and, not_true_eq_false, not_false_eq_true]
    rw [g33_l7_x0_of g2]
    exact mid _
  · have : encImg m = ((encU m.ns.length ++ ((m.ns.take m.ns.length).map encNode).flatten ++ encU m.vs.length) ++ ((m.vs.take m.vs.length).map encPart).flatten ++ encU m.next.toNat) ++ encI m.count := by
      simp [encImg]
    rw [this]
    exact S6.1
end
end Go.Proofs.Ytjcenfgmpbeldaa

namespace Go.Proofs.Ytjcenfgmpbeldaa
open Go Go.Ev
set_option maxRecDepth 100000
set_option linter.unusedVariables false
set_option linter.unusedSimpArgs false

/-- a node's numbers are in range -/
def NR (n : NV) : Prop := (0 ≤ n.bk ∧ n.bk ≤ 1001) ∧ IR n.cm
theorem nr0 : NR nv0 := ⟨by decide, by decide⟩

theorem cmd_ep {W : World} {x0 : (Ty.slice CT).Val} (h0 : (Ty.slice CT).At W [.slice x0.1.1 x0.1.2.1 x0.1.2.2] x0) {k : Nat} (hk : k < x0.2.length) : IR (toC x0.2[k]).ep := by
  obtain ⟨a, cs, i1, g1, g2, g3⟩ := slice_get h0 hk
  obtain ⟨y, hy⟩ : ∃ y, x0.2[k] = y := ⟨_, rfl⟩
  rw [hy] at g3 ⊢
  obtain ⟨c0, c1, c2, c3, c4, ⟨q, vs⟩, _⟩ := y
  obtain ⟨e1, d1, rfl, _, ⟨rfl, h1⟩, e2, d2, rfl, _, ⟨rfl, h2⟩, e3, d3, rfl, _, ⟨rfl, h3⟩, e4, d4, rfl, _, ⟨rfl, h4⟩, e5, d5, rfl, _, ⟨rfl, h5⟩, e6, d6, rfl, _, hs, rfl⟩ := g3
  exact h4

theorem nr_apply {m : IM} (hbk : ∀ n ∈ m.ns, NR n) (hnx : 1 ≤ m.next ∧ m.next ≤ 1001) (r : CV) (hre : IR r.ep) : ∀ n ∈ (applyI m r).1.ns, NR n := by
  have hset : ∀ (i : Nat) (nd : NV), NR nd → ∀ n ∈ m.ns.set i nd, NR n := by
    intro i nd hnd n hn
    rcases List.mem_or_eq_of_mem_set hn with hn | rfl
    · exact hbk n hn
    · exact hnd
  have hget : ∀ i, NR (m.ns.getD i nv0) := by
    intro i
    by_cases hi : i < m.ns.length
    · rw [getD_nat hi]; exact hbk _ (List.getElem_mem hi)
    · rw [List.getD_eq_getElem?_getD, List.getElem?_eq_none (by omega)]; exact nr0
  unfold applyI
  repeat' split
  all_goals first
    | exact hbk
    | exact hset _ _ ⟨(hget _).1, hre⟩
    | exact hset _ _ ⟨(hget _).1, (hget _).2⟩
    | exact hset _ _ ⟨(by show 0 ≤ m.next ∧ m.next ≤ 1001; omega), (hget _).2⟩

theorem mi_facts {t : Int} {m : IM} (h : MI t m) (ht : t ≤ 5000000000000) (hn : ∀ n ∈ m.ns, NR n) (hc : 0 ≤ m.count ∧ m.count ≤ 5000000000000) : WOk m ∧ soundI m := by
  have hnl := h.nlen
  have hvl := h.vlen
  have hnx := h.next
  have ld : ∀ v ∈ m.vs, -1 ≤ v.ld ∧ v.ld < (m.ns.length : Int) := by
    intro v hv
    have V := h.vs v hv
    refine ⟨V.l0, ?_⟩
    by_cases h0 : 0 ≤ v.ld
    · have := V.names.1 _ (V.l1 h0).1; omega
    · omega
  have ir : ∀ {l : List Int}, sortedI m.ns.length l → l.length ≤ 4096 ∧ ∀ z ∈ l, IR z := by
    intro l hl
    have h1 := sortedI_len hl
    refine ⟨by omega, fun z hz => ?_⟩
    have := (sortedI_iff.mp hl).2.1 z hz
    constructor <;> omega
  constructor
  · refine ⟨fun v hv => ⟨(hn v hv).2, by have := (hn v hv).1; omega⟩, fun v hv => ?_, hnl.2, hvl.2, by omega, by constructor <;> omega⟩
    have V := h.vs v hv
    have hl := ld v hv
    have he := V.ep
    have hr := V.vr
    refine ⟨by constructor <;> omega, by constructor <;> omega, by constructor <;> omega, ir V.si, ir V.sr, ?_⟩
    rcases V.st with hh | hh
    · rw [hh]; exact ⟨by decide, by simp⟩
    · exact ir hh
  · refine ⟨fun hh => by rw [hh] at hnl; simp at hnl, fun hh => by rw [hh] at hvl; simp at hvl, hnx.1, hnx.2, hc.1, fun v hv => ?_⟩
    have V := h.vs v hv
    have hl := ld v hv
    exact ⟨V.si, V.sr, V.st, hl.1, hl.2, V.ep.1, V.vr.1⟩

theorem count_apply (m : IM) (r : CV) : (applyI m r).1.count = IntKind.i64.wrap (m.count + 1) := by
  unfold applyI
  repeat' split
  all_goals rfl

theorem after18c (W : World) {w : World} (hF : Fr [] W w) (x0 : (Ty.slice CT).Val) (h0 : (Ty.slice CT).At W [.slice x0.1.1 x0.1.2.1 x0.1.2.2] x0) (hb : Ty.Fits (.slice CT) x0) :
    ∃ D b m w', callF Try.prog 18 #[.slice x0.1.1 x0.1.2.1 x0.1.2.2] w = some (.pointer (some ⟨b, 0, none⟩), w') ∧ Img w' D b m ∧ MI 2199023255488 m ∧ m.ns.length = 5 ∧ m.vs.length = 4 ∧ 0 ≤ m.count ∧ m.count ≤ 2199023255488 ∧ (∀ n ∈ m.ns, NR n) ∧ Fr [] w w' ∧ ∀ y, D y → w.heap.size ≤ y := by
  have hlen := h0.2.1
  have hlb := cmds_len hb
  obtain ⟨w1, D, b, ct, nq, pq, es, e1, R1, hv1, f1, hD⟩ := new11 w (n := 5) (p := 4) (c := 3) (by omega) (by omega) (by omega)
  have hI : Img w1 D b ⟨List.replicate 5 nv0, newParts 5 3 4, 1, 0⟩ := ⟨ct, nq, pq, es, R1, hv1⟩
  obtain ⟨t, w2, g1, rfl, D2, m2, hI2, hM2, hn5, hv4, hc2, hbk2, hD2, hF2⟩ := loopS_countX 0 (b := g18_l6_b x0.1 (some ⟨b, 0, none⟩)) (n := x0.2.length)
    (I := fun k s x => s = (k : Int) ∧ ∃ D m, Img x D b m ∧ MI (k : Int) m ∧ m.ns.length = 5 ∧ m.vs.length = 4 ∧ m.count = (k : Int) ∧ (∀ n ∈ m.ns, NR n) ∧ (∀ y, D y → w.heap.size ≤ y) ∧ Fr [] w x)
    (fun k s x hk ⟨hs, D, m, hI, hM, hn5, hv4, hc, hbk, hD, hFx⟩ => by
      subst hs
      have FW : Fr [] W x := (Fr.mono (Fr.app hF hFx) (by have z0_ := Fr.size hF; have z1_ := Fr.size hFx; intro y_ hy_ hl_; grind [blkOf]))
      obtain ⟨a, i1, ld, hq, hml⟩ := cmd_at h0 hb FW hk
      obtain ⟨r, hr⟩ : ∃ r, toC x0.2[k] = r := ⟨_, rfl⟩
      obtain ⟨q, hqq⟩ : ∃ q, x0.2[k].2.2.2.2.2.1.1 = q := ⟨_, rfl⟩
      rw [hr, hqq] at ld hq
      rw [hr] at hml
      have hre := cmd_ep h0 hk
      rw [hr] at hre
      have k0 : decide ((k : Int) < (x0.1.2.1 : Int)) = true := by simp; omega
      have kw := wrap_succ (n := k) (by omega)
      simp only [CV.cs] at ld
      obtain ⟨w1, s1, b1, f1, l1⟩ := newC2 x r q
      obtain ⟨v, w2, e2, o2, f2, n2⟩ := own142 w1 r (hq.fr3 f1 (by simp)) (by omega)
      have F2 : Fr [] x w2 := (Fr.mono (Fr.app f1 f2) (by have z0_ := Fr.size f1; have z1_ := Fr.size f2; intro y_ hy_ hl_; grind [blkOf]))
      obtain ⟨D3, w3, e3, hI3, C3⟩ := apply13 (hI.fr F2 (by simp)) hM.ok r v o2.slI (fun hn => (o2.empty hn).2.1) (by omega) (fun _ y hy hd => by have := n2 y hy; have := hI.lt y hd; have := f1.size; omega)
      obtain ⟨hM3, hR3⟩ := apply_mi hM (by omega) r
      obtain ⟨S, fS, hS⟩ := C3.fr
      have hz2 := F2.size
      have hzx := hFx.size
      simp only [CV.arg] at e2 e3
      have hcount : (applyI m r).1.count = ((k + 1 : Nat) : Int) := by
        have : (applyI m r).1.count = IntKind.i64.wrap (m.count + 1) := by
          unfold applyI
          repeat' split
          all_goals rfl
        rw [this, hc, kw]
      have hbk' : ∀ n ∈ (applyI m r).1.ns, NR n := nr_apply hbk hM.next r hre
      refine ⟨_, w3, ?_, rfl, D3, (applyI m r).1, hI3, by simpa using hM3, by rw [hR3.nl]; exact hn5, by rw [hR3.vl]; exact hv4, hcount, hbk', fun y hy => ?_, ?_⟩
      · unfold g18_l6_b
        simp only [k0, i1, ld, s1, l1, e2, e3, kw, obs, asP_pointer, asB_bool, asI_int, asS_string, asSl_slice, asM_map, asTup0, asTup1, asTup2, asTup3, asTup4, asTup5, asTup6, asTup7, asTup8, asTup9, asAgg2, asAgg3, asAgg4, asAgg5, asAgg6, asAgg7, asAgg8, asAgg9, asAgg12, getD0, getD1, getD2, getD3, getD4, getD5, getD6, getD7, getD8, getD9, getD10, getD11, getD12, getD13, getD14, getD15, getD16, getD17, getD18, getD19, Bool.not_true, Bool.not_false, Bool.false_eq_true, Bool.true_eq_false, ↓reduceIte, decide_true, decide_false, Option.isNone_some, Option.isNone_none, Option.isSome_some, Option.isSome_none, beq_self_eq_true, bne_self_eq_false, Bool.and_true, Bool.true_and, Bool.and_false, Bool.false_and, not_true_eq_false, not_false_eq_true]
      · rcases C3.new y hy with hh | hh
        · exact hD y hh
        · omega
      · have Fw2 : Fr [] w w2 := (Fr.mono (Fr.app hFx F2) (by have z0_ := Fr.size hFx; have z1_ := Fr.size F2; intro y_ hy_ hl_; grind [blkOf]))
        exact (Fw2.app fS).mono (by intro y hy hlt; simp at hy; have := hD y (hS y hy); omega))
    (fun s x ⟨hs, _⟩ => by
      subst hs
      unfold g18_l6_b
      have k0 : decide ((x0.2.length : Int) < (x0.1.2.1 : Int)) = false := by simp; omega
      simp only [k0, Bool.false_eq_true, if_false]) (k := 0) (s := 0) (w := w1) (Nat.zero_le _)
    ⟨rfl, D, _, hI, mi_new, by simp, by simp [newParts], rfl, fun n hn => by have := (List.mem_replicate.mp hn).2; subst this; exact nr0, hD, f1⟩
  refine ⟨D2, b, m2, w2, g18_call ?_, hI2, ⟨hM2.nlen, hM2.vlen, hM2.next, fun v hv => (hM2.vs v hv).mono (by omega) (by omega)⟩, hn5, hv4, by omega, by omega, hbk2, hF2, hD2⟩
  have e1' : callF Try.prog 11 #[.int .i64 5, .int .i64 4, .int .i64 3] w = some (.tuple #[.pointer (some ⟨b, 0, none⟩), .int .i64 0], w1) := e1
  unfold g18
  simp only [e1', obs, asP_pointer, asB_bool, asI_int, asS_string, asSl_slice, asM_map, asTup0, asTup1, asTup2, asTup3, asTup4, asTup5, asTup6, asTup7, asTup8, asTup9, asAgg2, asAgg3, asAgg4, asAgg5, asAgg6, asAgg7, asAgg8, asAgg9, asAgg12, getD0, getD1, getD2, getD3, getD4, getD5, getD6, getD7, getD8, getD9, getD10, getD11, getD12, getD13, getD14, getD15, getD16, getD17, getD18, getD19, Bool.not_true, Bool.not_false, Bool.false_eq_true, Bool.true_eq_false, ↓reduceIte, decide_true, decide_false, Option.isNone_some, Option.isNone_none, Option.isSome_some, Option.isSome_none, beq_self_eq_true, bne_self_eq_false, Bool.and_true, Bool.true_and, Bool.and_false, Bool.false_and, not_true_eq_false, not_false_eq_true]
  rw [g18_l6_x0_of g1, g18_l6_x0]
end Go.Proofs.Ytjcenfgmpbeldaa

namespace Go.Proofs.Ytjcenfgmpbeldaa
open Go Go.Ev
set_option maxRecDepth 100000
set_option linter.unusedVariables false
set_option linter.unusedSimpArgs false

theorem encL_range (l : List Int) : ∀ b ∈ encL l, 0 ≤ b ∧ b ≤ 255 := by
  intro b hb
  unfold encL encI at hb
  rcases List.mem_append.mp hb with hb | hb
  · exact encU_range _ b hb
  · obtain ⟨y, hy, hb⟩ := List.mem_flatten.mp hb
    obtain ⟨z, _, rfl⟩ := List.mem_map.mp hy
    exact encU_range _ b hb
theorem encF_range (f : Bool) : ∀ b ∈ encF f, 0 ≤ b ∧ b ≤ 255 := by
  intro b hb
  unfold encF at hb
  simp only [List.mem_singleton] at hb
  subst hb
  cases f <;> decide
theorem encImg_range (m : IM) : ∀ b ∈ encImg m, 0 ≤ b ∧ b ≤ 255 := by
  intro b hb
  unfold encImg at hb
  simp only [List.mem_append] at hb
  rcases hb with hb | hb | hb | hb | hb | hb
  · exact encU_range _ b hb
  · obtain ⟨y, hy, hb⟩ := List.mem_flatten.mp hb
    obtain ⟨z, _, rfl⟩ := List.mem_map.mp hy
    unfold encNode encI at hb
    simp only [List.mem_append] at hb
    rcases hb with hb | hb | hb
    · exact encF_range _ b hb
    · exact encU_range _ b hb
    · exact encU_range _ b hb
  · exact encU_range _ b hb
  · obtain ⟨y, hy, hb⟩ := List.mem_flatten.mp hb
    obtain ⟨z, _, rfl⟩ := List.mem_map.mp hy
    unfold encPart encI at hb
    simp only [List.mem_append] at hb
    rcases hb with hb | hb | hb | hb | hb | hb
    · exact encU_range _ b hb
    · exact encU_range _ b hb
    · exact encU_range _ b hb
    · exact encL_range _ b hb
    · exact encL_range _ b hb
    · exact encL_range _ b hb
  · exact encU_range _ b hb
  · exact encU_range _ b hb
theorem flat_le {α : Type} {f : α → List Int} {C : Nat} : ∀ {l : List α}, (∀ x ∈ l, (f x).length ≤ C) → (l.map f).flatten.length ≤ C * l.length
  | [], _ => by simp
  | x :: l, h => by
    have h1 := h x (by simp)
    have h2 := flat_le (l := l) (fun y hy => h y (by simp [hy]))
    rw [List.map_cons, List.flatten_cons, List.length_append, List.length_cons, Nat.mul_succ]
    omega
theorem encImg_len {m : IM} (h : WOk m) : (encImg m).length ≤ 10000000 := by
  have hnl := h.nl
  have hvl := h.vl
  have a1 := encU_len10 (n := m.ns.length) (by omega)
  have a2 := encU_len10 (n := m.vs.length) (by omega)
  have a3 := encU_len10 (n := m.next.toNat) (by have := h.nx; omega)
  have a4 := encU_len10 (zig_lt h.ct)
  have b1 : (m.ns.map encNode).flatten.length ≤ 30 * m.ns.length := flat_le fun v hv => by
    have := h.ns v hv
    have c1 := encU_len10 (zig_lt this.cm)
    have c2 := encU_len10 (n := v.bk.toNat) (by have := this.bk; omega)
    simp [encNode, encF, encI]; omega
  have b2 : (m.vs.map encPart).flatten.length ≤ 150000 * m.vs.length := flat_le fun v hv => by
    have := h.vs v hv
    have c1 := encU_len10 (zig_lt this.ld)
    have c2 := encU_len10 (zig_lt this.ep)
    have c3 := encU_len10 (zig_lt this.vr)
    have d1 := encL_len2 this.isr.2
    have d2 := encL_len2 this.rep.2
    have d3 := encL_len2 this.tgt.2
    have e1 := this.isr.1
    have e2 := this.rep.1
    have e3 := this.tgt.1
    simp [encPart, encI]; omega
  simp only [encImg, encI, List.length_append]
  omega

section
variable {W x : World} {D D' : Nat → Prop} {b b' : Nat} {m : IM}

/-- a round: each image takes the command -/
theorem back_round (F : Fr [] W x) (h : Img x D b m) (h' : Img x D' b' m) (ap : ∀ y, D y → ¬ D' y) (hD : ∀ y, D y → W.heap.size ≤ y) (hD' : ∀ y, D' y → W.heap.size ≤ y) (hm : IOk m)
    {x1 : (Ty.slice CT).Val} (h1 : (Ty.slice CT).At W [.slice x1.1.1 x1.1.2.1 x1.1.2.2] x1) (hb : Ty.Fits (.slice CT) x1) {k : Nat} (hk : k < x1.2.length) (hll : x1.1.2.1 = x1.2.length) (hkl : x1.2.length ≤ 2199023255488) :
    ∃ E E' x', g10_l28_b x1.1 (some ⟨b, 0, none⟩) (some ⟨b', 0, none⟩) (false, (k : Int)) x = some (.normal, (false, ((k + 1 : Nat) : Int)), x') ∧ Fr [] W x' ∧
      Img x' E b (applyI m (toC x1.2[k])).1 ∧ Img x' E' b' (applyI m (toC x1.2[k])).1 ∧ (∀ y, E y → ¬ E' y) ∧ (∀ y, E y → W.heap.size ≤ y) ∧ (∀ y, E' y → W.heap.size ≤ y) := by
  obtain ⟨a, i1, ld, hq, hml⟩ := cmd_at h1 hb F hk
  obtain ⟨r, hr⟩ : ∃ r, toC x1.2[k] = r := ⟨_, rfl⟩
  obtain ⟨q, hqq⟩ : ∃ q, x1.2[k].2.2.2.2.2.1.1 = q := ⟨_, rfl⟩
  rw [hr, hqq] at ld hq
  rw [hr] at hml ⊢
  simp only [CV.cs] at ld
  obtain ⟨w1, s1, b1, f1, l1⟩ := newC2 x r q
  have fd := Fr.drew [] w1
  obtain ⟨w2, hw2⟩ : ∃ w2, w1.drew = w2 := ⟨_, rfl⟩
  rw [hw2] at fd
  have b2 := b1.fr fd (by simp)
  have F2 : Fr [] x w2 := (Fr.mono (Fr.app f1 fd) (by have z0_ := Fr.size f1; have z1_ := Fr.size fd; intro y_ hy_ hl_; grind [blkOf]))
  have l2 : ldN w2 ⟨x.heap.size, 0, none⟩ 0 6 = some [.int .i64 r.k, .int .i64 r.nd, .int .i64 r.pt, .int .i64 r.ep, .int .i64 r.vr, .slice q.1 q.2.1 q.2.2] := b2.ldN (n := 6) rfl
  obtain ⟨v3, w3, e3, o3, f3, n3⟩ := own142 w2 r (hq.fr3 F2 (by simp)) (by omega)
  have F3 : Fr [] x w3 := (Fr.mono (Fr.app F2 f3) (by have z0_ := Fr.size F2; have z1_ := Fr.size f3; intro y_ hy_ hl_; grind [blkOf]))
  have b3 := b2.fr f3 (by simp)
  have l3 : ldN w3 ⟨x.heap.size, 0, none⟩ 0 6 = some [.int .i64 r.k, .int .i64 r.nd, .int .i64 r.pt, .int .i64 r.ep, .int .i64 r.vr, .slice q.1 q.2.1 q.2.2] := b3.ldN (n := 6) rfl
  have z2 := F2.size
  have z3 := F3.size
  obtain ⟨E, w4, e4, hI4, C4⟩ := apply13 (h.fr F3 (by simp)) hm r v3 o3.slI (fun hn => (o3.empty hn).2.1) (by omega) (fun _ y hy hd => by have := n3 y hy; have := h.lt y hd; omega)
  obtain ⟨S4, fS4, hS4⟩ := C4.fr
  have b4 := b3.fr fS4 (fun hm => by have := h.lt _ (hS4 _ hm); omega)
  have l4 : ldN w4 ⟨x.heap.size, 0, none⟩ 0 6 = some [.int .i64 r.k, .int .i64 r.nd, .int .i64 r.pt, .int .i64 r.ep, .int .i64 r.vr, .slice q.1 q.2.1 q.2.2] := b4.ldN (n := 6) rfl
  have FW3 : Fr [] W w3 := (Fr.mono (Fr.app F F3) (by have z0_ := Fr.size F; have z1_ := Fr.size F3; intro y_ hy_ hl_; grind [blkOf]))
  have FW4 : Fr [] W w4 := (FW3.app fS4).mono (by intro y hy hlt; simp at hy; have := hD y (hS4 y hy); omega)
  have h4' := (h'.fr F3 (by simp)).fr fS4 (fun y hy _ hd => ap y (hS4 y hy) hd)
  have z4 := fS4.size
  have hqW : SlI .i64 w4 q r.ls := by
    obtain ⟨_, _, _, hq4, _⟩ := cmd_at h1 hb FW4 hk
    rw [hr, hqq] at hq4
    exact hq4
  obtain ⟨v5, w5, e5, o5, f5, n5⟩ := own142 w4 r hqW (by omega)
  have h5' := h4'.fr f5 (by simp)
  have hI5 := hI4.fr f5 (by simp)
  obtain ⟨E', w6, e6, hI6, C6⟩ := apply13 h5' hm r v5 o5.slI (fun hn => (o5.empty hn).2.1) (by omega) (fun _ y hy hd => by have := n5 y hy; have := h4'.lt y hd; omega)
  obtain ⟨S6, fS6, hS6⟩ := C6.fr
  have z5 := f5.size
  have apE : ∀ y, E y → ¬ D' y := fun y hy hd => by
    rcases C4.new y hy with hh | hh
    · exact ap y hh hd
    · have := h'.lt y hd; omega
  have hI7 := hI5.fr fS6 (fun y hy _ he => apE y he (hS6 y hy))
  have FW5 : Fr [] W w5 := (Fr.mono (Fr.app FW4 f5) (by have z0_ := Fr.size FW4; have z1_ := Fr.size f5; intro y_ hy_ hl_; grind [blkOf]))
  have k0 : decide ((k : Int) < (x1.1.2.1 : Int)) = true := by simp; omega
  have kw := wrap_succ (n := k) (by omega)
  have nn : ((applyI m r).2 != (applyI m r).2) = false := by simp
  simp only [CV.arg] at e3 e4 e5 e6
  have hW := F.size
  refine ⟨E, E', w6, ?_, (FW5.app fS6).mono (by intro y hy hlt; simp at hy; have := hD' y (hS6 y hy); omega), hI7, hI6, fun y hy hy' => ?_, fun y hy => ?_, fun y hy => ?_⟩
  · have J93 : ∀ a1 a2 a3 a4 a5 a6 a7 a8 a9 c1 c2 c3 c4 c5 c6 c7, g10_j93 (false, (k : Int)) (some ⟨b, 0, none⟩) (some ⟨b', 0, none⟩) a1 a2 a3 a4 a5 a6 a7 a8 a9 c1 c2 c3 c4 c5 c6 c7 (applyI m r).2 r.k r.nd r.pt r.ep r.vr q w4 = some (.normal, (false, ((k + 1 : Nat) : Int)), w6) := by
      intro a1 a2 a3 a4 a5 a6 a7 a8 a9 c1 c2 c3 c4 c5 c6 c7
      unfold g10_j93
      simp only [e5, e6, nn, kw, obs, asP_pointer, asB_bool, asI_int, asS_string, asSl_slice, asM_map, asTup0, asTup1, asTup2, asTup3, asTup4, asTup5, asTup6, asTup7, asTup8, asTup9, asAgg2, asAgg3, asAgg4, asAgg5, asAgg6, asAgg7, asAgg8, asAgg9, asAgg12, getD0, getD1, getD2, getD3, getD4, getD5, getD6, getD7, getD8, getD9, getD10, getD11, getD12, getD13, getD14, getD15, getD16, getD17, getD18, getD19, Bool.not_true, Bool.not_false, Bool.false_eq_true, Bool.true_eq_false, ↓reduceIte, decide_true, decide_false, Option.isNone_some, Option.isNone_none, Option.isSome_some, Option.isSome_none, beq_self_eq_true, bne_self_eq_false, Bool.and_true, Bool.true_and, Bool.and_false, Bool.false_and, not_true_eq_false, not_false_eq_true]
    have J77 : ∀ a1 a2 a3 a4 a5 a6 a7 a8 a9 c1 c2 c3 c4 c5 c6 c7, g10_j77 (some ⟨b, 0, none⟩) (false, (k : Int)) (some ⟨b', 0, none⟩) a1 a2 a3 a4 a5 a6 a7 a8 a9 c1 c2 c3 c4 c5 c6 c7 r.k r.nd r.pt r.ep r.vr v3 r.k r.nd r.pt r.ep r.vr q w3 = some (.normal, (false, ((k + 1 : Nat) : Int)), w6) := by
      intro a1 a2 a3 a4 a5 a6 a7 a8 a9 c1 c2 c3 c4 c5 c6 c7
      unfold g10_j77
      simp only [e4, obs, asP_pointer, asB_bool, asI_int, asS_string, asSl_slice, asM_map, asTup0, asTup1, asTup2, asTup3, asTup4, asTup5, asTup6, asTup7, asTup8, asTup9, asAgg2, asAgg3, asAgg4, asAgg5, asAgg6, asAgg7, asAgg8, asAgg9, asAgg12, getD0, getD1, getD2, getD3, getD4, getD5, getD6, getD7, getD8, getD9, getD10, getD11, getD12, getD13, getD14, getD15, getD16, getD17, getD18, getD19, Bool.not_true, Bool.not_false, Bool.false_eq_true, Bool.true_eq_false, ↓reduceIte, decide_true, decide_false, Option.isNone_some, Option.isNone_none, Option.isSome_some, Option.isSome_none, beq_self_eq_true, bne_self_eq_false, Bool.and_true, Bool.true_and, Bool.and_false, Bool.false_and, not_true_eq_false, not_false_eq_true]
      exact J93 ..
    unfold g10_l28_b
    simp only [k0, i1, ld, s1, hw2, l2, e3, l3, e4, l4, J93, J77, ite_self, obs, asP_pointer, asB_bool, asI_int, asS_string, asSl_slice, asM_map, asTup0, asTup1, asTup2, asTup3, asTup4, asTup5, asTup6, asTup7, asTup8, asTup9, asAgg2, asAgg3, asAgg4, asAgg5, asAgg6, asAgg7, asAgg8, asAgg9, asAgg12, getD0, getD1, getD2, getD3, getD4, getD5, getD6, getD7, getD8, getD9, getD10, getD11, getD12, getD13, getD14, getD15, getD16, getD17, getD18, getD19, Bool.not_true, Bool.not_false, Bool.false_eq_true, Bool.true_eq_false, ↓reduceIte, decide_true, decide_false, Option.isNone_some, Option.isNone_none, Option.isSome_some, Option.isSome_none, beq_self_eq_true, bne_self_eq_false, Bool.and_true, Bool.true_and, Bool.and_false, Bool.false_and, not_true_eq_false, not_false_eq_true]
  · rcases C6.new y hy' with hh | hh
    · exact apE y hy hh
    · have := hI5.lt y hy; omega
  · rcases C4.new y hy with hh | hh
    · exact hD y hh
    · omega
  · rcases C6.new y hy with hh | hh
    · exact hD' y hh
    · omega

theorem ImageBack_main0 (W : World) (x0 : (Ty.slice CT).Val) (h0 : (Ty.slice CT).At W [.slice x0.1.1 x0.1.2.1 x0.1.2.2] x0) (x1 : (Ty.slice CT).Val) (h1 : (Ty.slice CT).At W [.slice x1.1.1 x1.1.2.1 x1.1.2.2] x1) (hb : Ty.Fits (.slice CT) x0) (hb1 : Ty.Fits (.slice CT) x1) :
    ∃ w', callF Try.prog 10 #[.slice x0.1.1 x0.1.2.1 x0.1.2.2, .slice x1.1.1 x1.1.2.1 x1.1.2.2] W = some (.bool true, w') ∧ Fr [] W w' := by
  have hlb := cmds_len hb1
  have hll := h1.2.1
  obtain ⟨w1, e1, f1⟩ := awake12 W
  obtain ⟨D, b, m, w2, e2, hI2, hM, hn5, hv4, hc0, hc1, hnr, f2, hD⟩ := after18c W f1 x0 h0 hb
  have F2 : Fr [] W w2 := (Fr.mono (Fr.app f1 f2) (by have z0_ := Fr.size f1; have z1_ := Fr.size f2; intro y_ hy_ hl_; grind [blkOf]))
  have z1 := f1.size
  obtain ⟨hw, hs⟩ := mi_facts hM (by decide) hnr ⟨hc0, by omega⟩
  obtain ⟨v3, w3, e3, o3, f3, n3⟩ := bytes24 hI2 hw hM.next.2
  have hbl : (encImg m).length ≤ 100000000 := by
    have := encImg_len hw; omega
  have hby : ∀ z ∈ encImg m, 0 ≤ z ∧ z ≤ 255 := encImg_range m
  obtain ⟨r4, w4, e4, f4, G4⟩ := read31 o3.slI hby (by omega)
  rw [decM_enc hw hs] at e4 G4
  obtain ⟨b4, rfl, R4⟩ := G4
  obtain ⟨v5, w5, e5, o5, f5, n5⟩ := copyB (o3.fr f4 (by simp)).slI (by omega)
  obtain ⟨r6, w6, e6, f6, G6⟩ := read32 o5.slI hby (by omega)
  rw [decM_enc hw hs] at e6 G6
  obtain ⟨b6, rfl, I6⟩ := G6
  have F36 : Fr [] w2 w6 := (Fr.mono (Fr.app (Fr.app (Fr.app f3 f4) f5) f6) (by have z0_ := Fr.size f3; have z1_ := Fr.size f4; have z2_ := Fr.size f5; have z3_ := Fr.size f6; intro y_ hy_ hl_; grind [blkOf]))
  have F46 : Fr [] w4 w6 := (Fr.mono (Fr.app f5 f6) (by have z0_ := Fr.size f5; have z1_ := Fr.size f6; intro y_ hy_ hl_; grind [blkOf]))
  have hls : ∀ v ∈ m.vs, v.isr.length ≤ 1000000000 ∧ v.rep.length ≤ 1000000000 ∧ v.tgt.length ≤ 1000000000 := fun v hv => by
    have := hw.vs v hv
    exact ⟨by have := this.isr.1; omega, by have := this.rep.1; omega, by have := this.tgt.1; omega⟩
  have I2' := hI2.fr F36 (by simp)
  have R4' := R4.fr F46 (by simp)
  obtain ⟨w7, e7, f7⟩ := same22 I2' R4' (by have := hM.next; omega) (by omega) (by omega) hls
  obtain ⟨w8, e8, f8⟩ := same22 (I6.fr f7 (by simp)) (R4'.fr f7 (by simp)) (by have := hM.next; omega) (by omega) (by omega) hls
  have F68 : Fr [] w6 w8 := (Fr.mono (Fr.app f7 f8) (by have z0_ := Fr.size f7; have z1_ := Fr.size f8; intro y_ hy_ hl_; grind [blkOf]))
  obtain ⟨v9, w9, e9, o9, f9, n9⟩ := rbytes33 (R4'.fr F68 (by simp)) hw
  have F49 : Fr [] w4 w9 := (Fr.mono (Fr.app (Fr.app F46 F68) f9) (by have z0_ := Fr.size F46; have z1_ := Fr.size F68; have z2_ := Fr.size f9; intro y_ hy_ hl_; grind [blkOf]))
  have F39 : Fr [] w3 w9 := (Fr.mono (Fr.app f4 F49) (by have z0_ := Fr.size f4; have z1_ := Fr.size F49; intro y_ hy_ hl_; grind [blkOf]))
  obtain ⟨w10, e10, f10⟩ := same30 (o3.fr F39 (by simp)).slI o9.slI (by omega)
  have F2T : Fr [] w2 w10 := (Fr.mono (Fr.app (Fr.app f3 F39) f10) (by have z0_ := Fr.size f3; have z1_ := Fr.size F39; have z2_ := Fr.size f10; intro y_ hy_ hl_; grind [blkOf]))
  have F6T : Fr [] w6 w10 := (Fr.mono (Fr.app (Fr.app F68 f9) f10) (by have z0_ := Fr.size F68; have z1_ := Fr.size f9; have z2_ := Fr.size f10; intro y_ hy_ hl_; grind [blkOf]))
  have FWT : Fr [] W w10 := (Fr.mono (Fr.app F2 F2T) (by have z0_ := Fr.size F2; have z1_ := Fr.size F2T; intro y_ hy_ hl_; grind [blkOf]))
  have z35 : w2.heap.size ≤ w5.heap.size := by have a := f3.size; have b := f4.size; have c := f5.size; omega
  have z2 := F2.size
  -- each takes the commands
  obtain ⟨t, w11, g11, rfl, F11, E, E', m', I11, I11', ap, hE, hE', hM', hnr', hc'⟩ := loopS_countX 0 (b := g10_l28_b x1.1 (some ⟨b, 0, none⟩) (some ⟨b6, 0, none⟩)) (n := x1.2.length)
    (I := fun k s x => s = (false, (k : Int)) ∧ Fr [] W x ∧ ∃ E E' m', Img x E b m' ∧ Img x E' b6 m' ∧ (∀ y, E y → ¬ E' y) ∧ (∀ y, E y → W.heap.size ≤ y) ∧ (∀ y, E' y → W.heap.size ≤ y) ∧ MI (2199023255488 + (k : Int)) m' ∧ (∀ n ∈ m'.ns, NR n) ∧ 0 ≤ m'.count ∧ m'.count ≤ 2199023255488 + (k : Int))
    (fun k s x hk ⟨hs, hF, E, E', m', hI, hI', ap, hE, hE', hM', hnr', hc'⟩ => by
      subst hs
      obtain ⟨E2, E2', x', e, hF', hJ, hJ', ap2, hE2, hE2'⟩ := back_round hF hI hI' ap hE hE' hM'.ok h1 hb1 hk hll.symm (by omega)
      obtain ⟨hM2, _⟩ := apply_mi hM' (by omega) (toC x1.2[k])
      have hcw : (applyI m' (toC x1.2[k])).1.count = m'.count + 1 := by rw [count_apply]; exact wrap_i64 (by omega) (by omega)
      refine ⟨_, x', e, rfl, hF', E2, E2', _, hJ, hJ', ap2, hE2, hE2', ?_, nr_apply hnr' hM'.next _ (cmd_ep h1 hk), by omega, by omega⟩
      have : (2199023255488 + ((k + 1 : Nat) : Int)) = 2199023255488 + (k : Int) + 1 := by omega
      rw [this]; exact hM2)
    (fun s x ⟨hs, _⟩ => by
      subst hs
      have kk : decide ((x1.2.length : Int) < (x1.1.2.1 : Int)) = false := by simp; omega
      unfold g10_l28_b
      simp only [kk, Bool.false_eq_true, if_false]) (k := 0) (s := (false, 0)) (w := w10) (Nat.zero_le _)
    ⟨rfl, FWT, D, _, m, hI2.fr F2T (by simp), I6.fr F6T (by simp), fun y hy hy' => by have := hI2.lt y hy; have := hy'.1; omega, fun y hy => by have := hD y hy; omega, fun y hy => by have := hy.1; omega, by simpa using hM, hnr, hc0, by omega⟩
  obtain ⟨hw', hs'⟩ := mi_facts hM' (by omega) hnr' ⟨hc'.1, by omega⟩
  obtain ⟨v12, w12, e12, o12, f12, n12⟩ := bytes24 I11 hw' hM'.next.2
  obtain ⟨v13, w13, e13, o13, f13, n13⟩ := bytes24 (I11'.fr f12 (by simp)) hw' hM'.next.2
  obtain ⟨w14, e14, f14⟩ := same30 (o12.fr f13 (by simp)).slI o13.slI (by have := encImg_len hw'; omega)
  refine ⟨w14, g10_call ?_, (Fr.mono (Fr.app (Fr.app (Fr.app F11 f12) f13) f14) (by have z0_ := Fr.size F11; have z1_ := Fr.size f12; have z2_ := Fr.size f13; have z3_ := Fr.size f14; intro y_ hy_ hl_; grind [blkOf]))⟩
  have tail : ∀ t, g10_l28_x0 (some ⟨b, 0, none⟩) (some ⟨b6, 0, none⟩) t w11 = some (.bool true, w14) := by
    intro t
    have k0 : ((0 : Int) == 0) = true := rfl
    unfold g10_l28_x0
    simp only [e12, e13, k0, e14, obs, asP_pointer, asB_bool, asI_int, asS_string, asSl_slice, asM_map, asTup0, asTup1, asTup2, asTup3, asTup4, asTup5, asTup6, asTup7, asTup8, asTup9, asAgg2, asAgg3, asAgg4, asAgg5, asAgg6, asAgg7, asAgg8, asAgg9, asAgg12, getD0, getD1, getD2, getD3, getD4, getD5, getD6, getD7, getD8, getD9, getD10, getD11, getD12, getD13, getD14, getD15, getD16, getD17, getD18, getD19, Bool.not_true, Bool.not_false, Bool.false_eq_true, Bool.true_eq_false, ↓reduceIte, decide_true, decide_false, Option.isNone_some, Option.isNone_none, Option.isSome_some, Option.isSome_none, beq_self_eq_true, bne_self_eq_false, Bool.and_true, Bool.true_and, Bool.and_false, Bool.false_and, not_true_eq_false, not_false_eq_true]
  have k0 : ((0 : Int) != 0) = false := rfl
  unfold g10
  simp only [e1, e2, e3, e4, e5, e6, k0, e7, e8, e9, e10, obs, asP_pointer, asB_bool, asI_int, asS_string, asSl_slice, asM_map, asTup0, asTup1, asTup2, asTup3, asTup4, asTup5, asTup6, asTup7, asTup8, asTup9, asAgg2, asAgg3, asAgg4, asAgg5, asAgg6, asAgg7, asAgg8, asAgg9, asAgg12, getD0, getD1, getD2, getD3, getD4, getD5, getD6, getD7, getD8, getD9, getD10, getD11, getD12, getD13, getD14, getD15, getD16, getD17, getD18, getD19, Bool.not_true, Bool.not_false, Bool.false_eq_true, Bool.true_eq_false, ↓reduceIte, decide_true, decide_false, Option.isNone_some, Option.isNone_none, Option.isSome_some, Option.isSome_none, beq_self_eq_true, bne_self_eq_false, Bool.and_true, Bool.true_and, Bool.and_false, Bool.false_and, not_true_eq_false, not_false_eq_true]
  rw [g10_l28_x0_of g11]
  exact tail _
end

theorem ImageBack_main (W : World) (x0 : (Ty.slice (.cons (.int .i64) (.cons (.int .i64) (.cons (.int .i64) (.cons (.int .i64) (.cons (.int .i64) (.cons (.slice (.int .i64)) .nil))))))).Val) (h0 : (Ty.slice (.cons (.int .i64) (.cons (.int .i64) (.cons (.int .i64) (.cons (.int .i64) (.cons (.int .i64) (.cons (.slice (.int .i64)) .nil))))))).At W [.slice x0.1.1 x0.1.2.1 x0.1.2.2] x0) (x1 : (Ty.slice (.cons (.int .i64) (.cons (.int .i64) (.cons (.int .i64) (.cons (.int .i64) (.cons (.int .i64) (.cons (.slice (.int .i64)) .nil))))))).Val) (h1 : (Ty.slice (.cons (.int .i64) (.cons (.int .i64) (.cons (.int .i64) (.cons (.int .i64) (.cons (.int .i64) (.cons (.slice (.int .i64)) .nil))))))).At W [.slice x1.1.1 x1.1.2.1 x1.1.2.2] x1) (hs0 : Ty.Fits (.slice (.cons (.int .i64) (.cons (.int .i64) (.cons (.int .i64) (.cons (.int .i64) (.cons (.int .i64) (.cons (.slice (.int .i64)) .nil))))))) x0) (hs1 : Ty.Fits (.slice (.cons (.int .i64) (.cons (.int .i64) (.cons (.int .i64) (.cons (.int .i64) (.cons (.int .i64) (.cons (.slice (.int .i64)) .nil))))))) x1) :
    ∃ w', callF Try.prog 10 #[.slice x0.1.1 x0.1.2.1 x0.1.2.2, .slice x1.1.1 x1.1.2.1 x1.1.2.2] W = some (.bool true, w') ∧ Fr [] W w' :=
  ImageBack_main0 W x0 h0 x1 h1 hs0 hs1
end Go.Proofs.Ytjcenfgmpbeldaa
