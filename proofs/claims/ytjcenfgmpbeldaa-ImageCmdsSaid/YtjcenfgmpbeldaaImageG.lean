/-
  ImageG: lemmas on what Go functions of this seat come to (for whatever arguments, as each says). No condition but those that stand in each lemma.
-/
import Derived.Test.YtjcenfgmpbeldaaImageE
namespace Go.Proofs.Ytjcenfgmpbeldaa
open Go Go.Ev
set_option maxRecDepth 100000
set_option linter.unusedVariables false
set_option linter.unusedSimpArgs false

theorem ndf_len (n : NV) : n.cs.length = 3 := rfl
theorem pef_len (e : PE) : e.cs.length = 6 := rfl

section
variable {w : World} {D : Nat → Prop} {b c : Nat} {nq pq : Sh} {ns : List NV} {es : List PE} {next count : Int}

theorem Ctr.ne_blk {b c : Nat} {cs : List Value} {T : TypeId} {x l : Int} (h : Ctr w c x l) (hb : Blk w b cs T) (hT : T ≠ 118) : c ≠ b := by
  intro e
  subst e
  unfold Ctr at h
  unfold Blk at hb
  rw [hb] at h
  injection h with h
  injection h with _ h
  exact hT h
theorem Ctr.notin {c : Nat} {x l : Int} {e : TypeId} {n : Nat} {v : Sh} {xs : List Value} (h : Ctr w c x l) (o : Own w e n v xs) (he : e ≠ 118) : c ∉ blkOf v := by
  intro hm
  rcases o.at_ with ⟨h1, _⟩ | ⟨g, off, cur, h1, h2, _⟩
  · simp [blkOf, h1] at hm
  · simp [blkOf, h1] at hm
    subst hm
    unfold Ctr at h
    rw [h2] at h
    injection h with h
    injection h with _ h
    exact he h

theorem Raw.node_at (h : Raw w D b c nq pq ns es next count) {k : Nat} (hk : k < ns.length) :
    ∃ a, idxA nq.1 nq.2.1 3 (k : Int) = some a ∧ w.cell? a = some (.bool ns[k].al) ∧ w.cell? (Addr.add a 1) = some (.int .i64 ns[k].cm) ∧ w.cell? (Addr.add a 2) = some (.int .u64 ns[k].bk) := by
  obtain ⟨g, off, q1, i1, r1, _⟩ := row_at (f := NV.cs) ndf_len (by decide) h.nd (ndCs_len ns) hk
  exact ⟨_, i1, r1 0 (by decide), by have := r1 1 (by decide); rw [addr_add]; exact this, by have := r1 2 (by decide); rw [addr_add]; exact this⟩

/-- what the other lists are apart from -/
theorem Raw.apN (h : Raw w D b c nq pq ns es next count) : b ∉ blkOf nq ∧ c ∉ blkOf nq ∧ (∀ y ∈ blkOf nq, y ∉ blkOf pq) ∧ ∀ e ∈ es, ∀ y ∈ blkOf nq, y ∉ blkOf e.qi ∧ y ∉ blkOf e.qr ∧ y ∉ blkOf e.qt :=
  ⟨h.tbl.notin h.nd (by decide), h.ct.notin h.nd (by decide), h.nd.apart h.pt (by decide), fun e he y hy => ⟨h.nd.apart (h.ok e he).oi (by decide) y hy, h.nd.apart (h.ok e he).or_ (by decide) y hy, h.nd.apart (h.ok e he).ot (by decide) y hy⟩⟩
theorem Raw.apP (h : Raw w D b c nq pq ns es next count) : b ∉ blkOf pq ∧ c ∉ blkOf pq ∧ (∀ y ∈ blkOf pq, y ∉ blkOf nq) ∧ ∀ e : PE, ∀ {D' : Nat → Prop}, PeOk w D' e → ∀ y ∈ blkOf pq, y ∉ blkOf e.qi ∧ y ∉ blkOf e.qr ∧ y ∉ blkOf e.qt :=
  ⟨h.tbl.notin h.pt (by decide), h.ct.notin h.pt (by decide), h.pt.apart h.nd (by decide), fun e _ he y hy => ⟨h.pt.apart he.oi (by decide) y hy, h.pt.apart he.or_ (by decide) y hy, h.pt.apart he.ot (by decide) y hy⟩⟩

theorem Raw.setN (h : Raw w D b c nq pq ns es next count) {k : Nat} (hk : k < ns.length) {j : Nat} (hj : j < 3) (n' : NV) (v : Value) (hv : v.oneCell' = true) (hn : n'.cs = ns[k].cs.set j v) :
    ∃ a w', idxA nq.1 nq.2.1 3 (k : Int) = some a ∧ st1 w (Addr.add a j) v = some w' ∧ Raw w' D b c nq pq (ns.set k n') es next count ∧ Fr (blkOf nq) w w' := by
  obtain ⟨g, off, q1, i1, _, r2⟩ := row_at (f := NV.cs) ndf_len (by decide) h.nd (ndCs_len ns) hk
  obtain ⟨w', s1, o1, f1⟩ := r2 j hj n' v hv hn
  obtain ⟨a1, a2, a3, a4⟩ := h.apN
  refine ⟨_, w', i1, by rw [addr_add]; exact s1, ⟨h.tbl.fr f1 a1, o1, h.pt.fr f1 (fun y hy hm => a3 y hm hy), h.ct.fr f1 a2, fun e he => (h.ok e he).fr f1 (a4 e he) (fun _ => id), h.rb, h.rc, h.rn, h.rp, fun y hy => by have := h.lt y hy; have := f1.size; omega⟩, f1⟩

theorem Raw.part_at (h : Raw w D b c nq pq ns es next count) {k : Nat} (hk : k < es.length) :
    ∃ a, idxA pq.1 pq.2.1 6 (k : Int) = some a ∧ ∀ j, j < 6 → w.cell? (Addr.add a j) = (es[k].cs)[j]? := by
  obtain ⟨g, off, q1, i1, r1, _⟩ := row_at (f := PE.cs) pef_len (by decide) h.pt (ptCs_len es) hk
  exact ⟨_, i1, fun j hj => by rw [addr_add]; exact r1 j hj⟩

theorem Raw.setP (h : Raw w D b c nq pq ns es next count) {k : Nat} (hk : k < es.length) {j : Nat} (hj : j < 6) {D' : Nat → Prop} (e' : PE) (v : Value) (hv : v.oneCell' = true) (he : e'.cs = es[k].cs.set j v) (hD : ∀ y, D y → D' y) (ok' : PeOk w D' e') (lt' : ∀ y, D' y → y < w.heap.size) :
    ∃ a w', idxA pq.1 pq.2.1 6 (k : Int) = some a ∧ st1 w (Addr.add a j) v = some w' ∧ Raw w' D' b c nq pq ns (es.set k e') next count ∧ Fr (blkOf pq) w w' := by
  obtain ⟨g, off, q1, i1, _, r2⟩ := row_at (f := PE.cs) pef_len (by decide) h.pt (ptCs_len es) hk
  obtain ⟨w', s1, o1, f1⟩ := r2 j hj e' v hv he
  obtain ⟨a1, a2, a3, a4⟩ := h.apP
  refine ⟨_, w', i1, by rw [addr_add]; exact s1, ⟨h.tbl.fr f1 a1, h.nd.fr f1 (fun y hy hm => a3 y hm hy), o1, h.ct.fr f1 a2, fun e hm => ?_, hD _ h.rb, hD _ h.rc, fun y hy => hD _ (h.rn y hy), fun y hy => hD _ (h.rp y hy), fun y hy => by have := lt' y hy; have := f1.size; omega⟩, f1⟩
  rcases List.mem_or_eq_of_mem_set hm with hm | rfl
  · exact (h.ok e hm).fr f1 (a4 e (h.ok e hm)) hD
  · exact ok'.fr f1 (a4 _ ok') (fun _ => id)

theorem Raw.setC (h : Raw w D b c nq pq ns es next count) (n : Int) : ∃ w', st1 w ⟨b, 3, none⟩ (.int .i64 n) = some w' ∧ Raw w' D b c nq pq ns es next n ∧ Fr [b] w w' := by
  have s1 := h.tbl.st1 (i := 3) (v := .int .i64 n) (by simp) rfl
  have t1 : Blk (w.setCell ⟨b, 3, none⟩ (.int .i64 n)) b [.slice nq.1 nq.2.1 nq.2.2, .slice pq.1 pq.2.1 pq.2.2, .pointer (some ⟨c, 0, none⟩), .int .i64 n] 79 := h.tbl.set 3 (.int .i64 n)
  have f1 : Fr [b] w (w.setCell ⟨b, 3, none⟩ (.int .i64 n)) := Fr.setCell
  refine ⟨_, s1, ⟨t1, h.nd.fr f1 (fun y hy hm => by simp at hm; subst hm; exact h.tbl.notin h.nd (by decide) hy), h.pt.fr f1 (fun y hy hm => by simp at hm; subst hm; exact h.tbl.notin h.pt (by decide) hy), h.ct.fr f1 (by simp; exact h.ct.ne_blk h.tbl (by decide)), fun e he => (h.ok e he).fr f1 (fun y hy => by
    simp at hy; subst hy
    exact ⟨h.tbl.notin (h.ok e he).oi (by decide), h.tbl.notin (h.ok e he).or_ (by decide), h.tbl.notin (h.ok e he).ot (by decide)⟩) (fun _ => id), h.rb, h.rc, h.rn, h.rp, fun y hy => by have := h.lt y hy; have := f1.size; omega⟩, f1⟩
end
end Go.Proofs.Ytjcenfgmpbeldaa
