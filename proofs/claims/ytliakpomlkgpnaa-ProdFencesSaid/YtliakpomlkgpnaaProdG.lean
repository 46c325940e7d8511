/-
  ProdG: lemmas on what Go functions of this seat come to (for whatever arguments, as each says). No condition but those that stand in each lemma.
-/
import Derived.Test.YtliakpomlkgpnaaProdE
namespace Go.Proofs.Ytliakpomlkgpnaa
open Go Go.Ev
set_option maxRecDepth 100000
set_option linter.unusedVariables false
set_option linter.unusedSimpArgs false

theorem seenCs_len (l : List Sn) : (seenCs l).length = 3 * l.length := by
  induction l with
  | nil => rfl
  | cons s l ih => simp only [seenCs, List.map_cons, List.flatten_cons, List.length_append, List.length_cons] at ih ⊢; rw [ih]; simp [tri]; omega
theorem seenCs_get (l : List Sn) (k j : Nat) (hk : k < l.length) (hj : j < 3) (h : 3 * k + j < (seenCs l).length) : (seenCs l)[3 * k + j] = (tri l[k])[j]'(by simpa [tri] using hj) := by
  induction l generalizing k with
  | nil => simp at hk
  | cons s l ih =>
    cases k with
    | zero =>
      have : seenCs (s :: l) = tri s ++ seenCs l := rfl
      simp only [this, List.getElem_cons_zero, Nat.mul_zero, Nat.zero_add]
      rw [List.getElem_append_left]
    | succ k =>
      have e : seenCs (s :: l) = tri s ++ seenCs l := rfl
      have h3 : (tri s).length = 3 := rfl
      simp only [e, List.getElem_cons_succ]
      rw [List.getElem_append_right (by omega)]
      have := ih k (by simpa using hk) (by rw [e, List.length_append] at h; omega)
      rw [← this]
      congr 1
      omega

theorem seen_at {w : World} {q : Option Addr × Nat × Nat} {l : List Sn} (h : Own w 59 3 q (seenCs l)) {k : Nat} (hk : k < l.length) : ∃ a, idxA q.1 q.2.1 3 (k : Int) = some a ∧ ldN w a 0 3 = some (tri l[k]) := by
  have hl := h.len
  rw [seenCs_len] at hl
  obtain ⟨_, hc⟩ := h.slC
  obtain ⟨b, off, h1, h2, h3⟩ := hc (by rw [seenCs_len]; omega)
  refine ⟨⟨b, off + k * 3, none⟩, ?_, ?_⟩
  · unfold idxA
    rw [if_pos (by omega), h1]
    simp only [Option.bind_some, addr_add, Int.toNat_natCast]
  · have : ldN w ⟨b, off + k * 3, none⟩ 0 (tri l[k]).length = some (tri l[k]) := ldN_of_cells fun j hj => by
      have hj3 : j < 3 := by simpa [tri] using hj
      have hlt : 3 * k + j < (seenCs l).length := by rw [seenCs_len]; omega
      have := h3 (3 * k + j) hlt
      rw [seenCs_get l k j hk hj3 hlt] at this
      rw [← this, addr_add]
      congr 2
      omega
    exact this

theorem blk_ldN {w : World} {b : Nat} {cs : List Value} {T : TypeId} (h : Blk w b cs T) {n : Nat} (hn : n ≤ cs.length) : ldN w ⟨b, 0, none⟩ 0 n = some (cs.take n) := by
  have := ldN_of_cells (w := w) (a := ⟨b, 0, none⟩) (cs := cs.take n) (i := 0) fun j hj => by
    have hj' : j < cs.length := by rw [List.length_take] at hj; omega
    have := h.cell j
    rw [addr_add]
    simp only [Nat.zero_add, List.getElem_take]
    rw [this]
    simp [hj']
  rw [List.length_take, Nat.min_eq_left hn] at this
  exact this

/-- is it this batch? -/
def isB (b : BV) (s : Sn) : Bool := s.1 == b.seq && s.2.1 == (b.sz : Int)

section
variable {w0 : World} {b : BV}

theorem check_round {x : World} {g : Nat} {p19 : Option Addr} {q : Option Addr × Nat × Nat} {l : List Sn} (hg : g = w0.heap.size) (hb : Blk x g b.cs 30) (hv : b.vs.length = b.q.2.1) (ho : Own x 59 3 q (seenCs l)) (hn : l.length < 9223372036854775807) {k : Nat} (hk : k < l.length) :
    ∃ x', Fr [] x x' ∧ g11_l42_b q w0 p19 (0, false, 0, (k : Int)) x = some (if isB b l[k] then (.ret, (l[k].2.2, true, 0, (k : Int)), x') else (.normal, (0, false, 0, ((k + 1 : Nat) : Int)), x')) := by
  subst hg
  have hl := ho.len
  rw [seenCs_len] at hl
  obtain ⟨a, i1, l1⟩ := seen_at ho hk
  have hc : (k : Int) < (q.2.1 : Int) := by omega
  have hs := wrap_succ (n := k) (by omega)
  have e3 : stL (x.alloc (.cells #[.int .i64 0, .int .i64 0, .int .i64 0] 59)) ⟨x.heap.size, 0, none⟩ [.int .i64 l[k].1, .int .i64 l[k].2.1, .int .i64 l[k].2.2] 0 = some (x.alloc (.cells #[.int .i64 l[k].1, .int .i64 l[k].2.1, .int .i64 l[k].2.2] 59)) := stL_new rfl (by simp)
  have fa : Fr [] x (x.alloc (.cells #[.int .i64 l[k].1, .int .i64 l[k].2.1, .int .i64 l[k].2.2] 59)) := Fr.alloc _
  have bs : Blk (x.alloc (.cells #[.int .i64 l[k].1, .int .i64 l[k].2.1, .int .i64 l[k].2.2] 59)) x.heap.size [.int .i64 l[k].1, .int .i64 l[k].2.1, .int .i64 l[k].2.2] 59 := Blk.new x [.int .i64 l[k].1, .int .i64 l[k].2.1, .int .i64 l[k].2.2] 59
  obtain ⟨v, hv1⟩ : ∃ v, x.alloc (.cells #[.int .i64 l[k].1, .int .i64 l[k].2.1, .int .i64 l[k].2.2] 59) = v := ⟨_, rfl⟩
  rw [hv1] at e3 fa bs
  have fd := Fr.drew [] v
  have bb := (hb.fr fa (by simp)).fr fd (by simp)
  have bs' := bs.fr fd (by simp)
  obtain ⟨s1, f1⟩ := spill v.drew b
  have e20 := size20 v.drew hv
  obtain ⟨u, hu⟩ : ∃ u, v.drew.alloc (.cells #[.int .i64 b.base, .int .i64 b.ep, .int .u64 b.pid, .int .i64 b.pe, .int .i64 b.seq, .bool b.txn, .bool b.con, .bool b.com, .slice b.q.1 b.q.2.1 b.q.2.2] 30) = u := ⟨_, rfl⟩
  rw [hu] at e20 f1
  have e20' : callF Try.prog 20 #[.agg #[.int .i64 b.base, .int .i64 b.ep, .int .u64 b.pid, .int .i64 b.pe, .int .i64 b.seq, .bool b.txn, .bool b.con, .bool b.com, .slice b.q.1 b.q.2.1 b.q.2.2]] v.drew = some (.int .i64 (b.sz : Int), u) := e20
  have bb2 := bb.fr f1 (by simp)
  have bs2 := bs'.fr f1 (by simp)
  have l9 : ldN v.drew ⟨w0.heap.size, 0, none⟩ 0 9 = some b.cs := blk_ldN bb (n := 9) (by simp [BV.cs])
  have c4 : v.drew.cell? ⟨w0.heap.size, 4, none⟩ = some (.int .i64 b.seq) := (cs9 bb).c4
  have c4' : u.cell? ⟨w0.heap.size, 4, none⟩ = some (.int .i64 b.seq) := (cs9 bb2).c4
  have l2 : ldN v.drew ⟨x.heap.size, 0, none⟩ 0 2 = some [.int .i64 l[k].1, .int .i64 l[k].2.1] := blk_ldN bs' (n := 2) (by simp)
  have l2' : ldN u ⟨x.heap.size, 0, none⟩ 0 2 = some [.int .i64 l[k].1, .int .i64 l[k].2.1] := blk_ldN bs2 (n := 2) (by simp)
  have c2 : u.cell? ⟨x.heap.size, 2, none⟩ = some (.int .i64 l[k].2.2) := bs2.cell 2
  have F : Fr [] x u := (Fr.mono (Fr.app (Fr.app fa fd) f1) (by have z0_ := Fr.size fa; have z1_ := Fr.size fd; have z2_ := Fr.size f1; intro y_ hy_ hl_; grind [blkOf]))
  refine ⟨u, F, ?_⟩
  have k1 : tri l[k] = [.int .i64 l[k].1, .int .i64 l[k].2.1, .int .i64 l[k].2.2] := rfl
  rw [k1] at l1
  have k9 : b.cs = [.int .i64 b.base, .int .i64 b.ep, .int .u64 b.pid, .int .i64 b.pe, .int .i64 b.seq, .bool b.txn, .bool b.con, .bool b.com, .slice b.q.1 b.q.2.1 b.q.2.2] := rfl
  rw [k9] at l9
  have g5 : ∀ a b c d e f g h i : Value, [a, b, c, d, e, f, g, h, i].getD 5 undef = f := fun _ _ _ _ _ _ _ _ _ => rfl
  have g6 : ∀ a b c d e f g h i : Value, [a, b, c, d, e, f, g, h, i].getD 6 undef = g := fun _ _ _ _ _ _ _ _ _ => rfl
  have g7 : ∀ a b c d e f g h i : Value, [a, b, c, d, e, f, g, h, i].getD 7 undef = h := fun _ _ _ _ _ _ _ _ _ => rfl
  have g8 : ∀ a b c d e f g h i : Value, [a, b, c, d, e, f, g, h, i].getD 8 undef = i := fun _ _ _ _ _ _ _ _ _ => rfl
  have g4' : ∀ a b c d e f g h i : Value, [a, b, c, d, e, f, g, h, i].getD 4 undef = e := fun _ _ _ _ _ _ _ _ _ => rfl
  have jj : ∀ (w0 : World) (p19 : Option Addr) (q40 : Option Addr × Nat × Nat) (a45 : Addr) (n47 n48 n49 n54 n55 n56 n57 n58 : Int) (b59 b60 b61 : Bool) (q62 : Option Addr × Nat × Nat), g11_j108 w0 (0, false, 0, (k : Int)) p19 x q40 a45 n47 n48 n49 n54 n55 n56 n57 n58 b59 b60 b61 q62 l[k].1 l[k].2.1 b.seq (b.sz : Int) u =
      some (if isB b l[k] then (.ret, (l[k].2.2, true, 0, (k : Int)), u) else (.normal, (0, false, 0, ((k + 1 : Nat) : Int)), u)) := by
    intro w0 p19 q40 a45 n47 n48 n49 n54 n55 n56 n57 n58 b59 b60 b61 q62
    have e := key_eq u l[k].1 l[k].2.1 b.seq (b.sz : Int)
    have eb : (l[k].1 == b.seq && l[k].2.1 == (b.sz : Int)) = isB b l[k] := rfl
    rw [eb] at e
    unfold g11_j108
    cases h : isB b l[k] with
    | true => rw [h] at e; simp only [e, addr_add, Nat.zero_add, c2, obs, asP_pointer, asB_bool, asI_int, asS_string, asSl_slice, asM_map, asTup0, asTup1, asTup2, asTup3, asTup4, asTup5, asTup6, asTup7, asTup8, asTup9, getD0, getD1, getD2, getD3, getD4, getD5, getD6, getD7, getD8, getD9, getD10, getD11, Bool.not_true, Bool.not_false, Bool.false_eq_true, Bool.true_eq_false, ↓reduceIte, decide_true, decide_false, Option.isNone_some, Option.isNone_none, Option.isSome_some, Option.isSome_none, beq_self_eq_true, bne_self_eq_false, Bool.and_true, Bool.true_and, Bool.and_false, Bool.false_and, not_true_eq_false, not_false_eq_true]
    | false => rw [h] at e; simp only [e, hs, obs, asP_pointer, asB_bool, asI_int, asS_string, asSl_slice, asM_map, asTup0, asTup1, asTup2, asTup3, asTup4, asTup5, asTup6, asTup7, asTup8, asTup9, getD0, getD1, getD2, getD3, getD4, getD5, getD6, getD7, getD8, getD9, getD10, getD11, Bool.not_true, Bool.not_false, Bool.false_eq_true, Bool.true_eq_false, ↓reduceIte, decide_true, decide_false, Option.isNone_some, Option.isNone_none, Option.isSome_some, Option.isSome_none, beq_self_eq_true, bne_self_eq_false, Bool.and_true, Bool.true_and, Bool.and_false, Bool.false_and, not_true_eq_false, not_false_eq_true]
  obtain ⟨L, hL⟩ : ∃ L, Region.schedule true (opsOf (cAt [1, 1, 1, 1, 1, 0, 1, 0, 0, 1, 1, 0, 0, 1, 0] (bodyOf Try.f11))) (World.tape v (World.drawn v) (.order 11 20)) = L := ⟨_, rfl⟩
  unfold g11_l42_b
  have G0 : ∀ a b c d e f g h i : Value, [a, b, c, d, e, f, g, h, i].getD 0 undef = a := fun _ _ _ _ _ _ _ _ _ => rfl
  have G1 : ∀ a b c d e f g h i : Value, [a, b, c, d, e, f, g, h, i].getD 1 undef = b := fun _ _ _ _ _ _ _ _ _ => rfl
  have G2 : ∀ a b c d e f g h i : Value, [a, b, c, d, e, f, g, h, i].getD 2 undef = c := fun _ _ _ _ _ _ _ _ _ => rfl
  have G3 : ∀ a b c d e f g h i : Value, [a, b, c, d, e, f, g, h, i].getD 3 undef = d := fun _ _ _ _ _ _ _ _ _ => rfl
  simp only [hc, decide_true, if_true, Option.bind_some, i1, l1, getD0, getD1, getD2, asI_int, e3]
  rw [l9, Option.bind_some]
  simp only [G0, G1, G2, G3, g4', g5, g6, g7, g8, asI_int, asB_bool, asSl_slice, Option.bind_some]
  simp only [hL]
  simp only [addr_add, Nat.zero_add, l2, l2', c4, c4', e20', g11_j76, g11_j85, g11_j93, jj, ite_self, obs, asP_pointer, asB_bool, asI_int, asS_string, asSl_slice, asM_map, asTup0, asTup1, asTup2, asTup3, asTup4, asTup5, asTup6, asTup7, asTup8, asTup9, getD0, getD1, getD2, getD3, getD4, getD5, getD6, getD7, getD8, getD9, getD10, getD11, Bool.not_true, Bool.not_false, Bool.false_eq_true, Bool.true_eq_false, ↓reduceIte, decide_true, decide_false, Option.isNone_some, Option.isNone_none, Option.isSome_some, Option.isSome_none, beq_self_eq_true, bne_self_eq_false, Bool.and_true, Bool.true_and, Bool.and_false, Bool.false_and, not_true_eq_false, not_false_eq_true]
end
end Go.Proofs.Ytliakpomlkgpnaa
