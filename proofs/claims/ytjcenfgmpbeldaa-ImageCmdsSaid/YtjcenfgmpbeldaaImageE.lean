/-
  ImageE: lemmas on what Go functions of this seat come to (for whatever arguments, as each says). No condition but those that stand in each lemma.
-/
import Derived.Test.YtjcenfgmpbeldaaImageD
import Derived.Test.YtjcenfgmpbeldaaImageSp
namespace Go.Proofs.Ytjcenfgmpbeldaa
open Go Go.Ev
set_option maxRecDepth 100000
set_option linter.unusedVariables false
set_option linter.unusedSimpArgs false

abbrev intsV' (l : List Int) : List Value := l.map (Value.int .i64)

/-- a node -/
structure NV where
  al : Bool
  cm : Int
  bk : Int
def NV.cs (n : NV) : List Value := [.bool n.al, .int .i64 n.cm, .int .u64 n.bk]
def ndCs (l : List NV) : List Value := (l.map NV.cs).flatten

/-- a partition -/
structure PV where
  ld : Int
  ep : Int
  vr : Int
  isr : List Int
  rep : List Int
  tgt : List Int
abbrev Sh := Option Addr × Nat × Nat
/-- a partition in memory -/
structure PE where
  v : PV
  qi : Sh
  qr : Sh
  qt : Sh
def PV.cs (v : PV) (qi qr qt : Sh) : List Value := [.int .i64 v.ld, .int .i64 v.ep, .int .i64 v.vr, .slice qi.1 qi.2.1 qi.2.2, .slice qr.1 qr.2.1 qr.2.2, .slice qt.1 qt.2.1 qt.2.2]
def PE.cs (e : PE) : List Value := e.v.cs e.qi e.qr e.qt
def ptCs (l : List PE) : List Value := (l.map PE.cs).flatten

theorem ndCs_len (l : List NV) : (ndCs l).length = 3 * l.length := by
  induction l with
  | nil => rfl
  | cons s l ih => simp only [ndCs, List.map_cons, List.flatten_cons, List.length_append, List.length_cons] at ih ⊢; rw [ih]; simp [NV.cs]; omega
theorem ptCs_len (l : List PE) : (ptCs l).length = 6 * l.length := by
  induction l with
  | nil => rfl
  | cons s l ih => simp only [ptCs, List.map_cons, List.flatten_cons, List.length_append, List.length_cons] at ih ⊢; rw [ih]; simp [PE.cs, PV.cs]; omega

/-- rows of one length, one behind the other -/
theorem flat_get {α : Type} {f : α → List Value} {n : Nat} (hf : ∀ x, (f x).length = n) (l : List α) (k j : Nat) (hk : k < l.length) (hj : j < n) : (l.map f).flatten[n * k + j]? = (f l[k])[j]? := by
  induction l generalizing k with
  | nil => simp at hk
  | cons s l ih =>
    rw [List.map_cons, List.flatten_cons]
    cases k with
    | zero => rw [List.getElem?_append_left (by rw [hf]; omega)]; simp
    | succ k =>
      rw [List.getElem?_append_right (by rw [hf, Nat.mul_succ]; omega), hf]
      have := ih k (by simpa using hk)
      simp only [List.getElem_cons_succ]
      rw [← this]
      congr 1
      rw [Nat.mul_succ]; omega
theorem flat_set {α : Type} {f : α → List Value} {n : Nat} (hf : ∀ x, (f x).length = n) (l : List α) (k j : Nat) (hk : k < l.length) (hj : j < n) (x : α) (v : Value) (hx : f x = (f l[k]).set j v) : ((l.map f).flatten).set (n * k + j) v = ((l.set k x).map f).flatten := by
  induction l generalizing k with
  | nil => simp at hk
  | cons s l ih =>
    cases k with
    | zero =>
      simp only [List.map_cons, List.flatten_cons, List.set_cons_zero, Nat.mul_zero, Nat.zero_add]
      simp only [List.getElem_cons_zero] at hx
      rw [List.set_append_left _ _ (by rw [hf]; omega), hx]
    | succ k =>
      simp only [List.map_cons, List.flatten_cons, List.set_cons_succ]
      simp only [List.getElem_cons_succ] at hx
      rw [List.set_append_right _ _ (by rw [hf, Nat.mul_succ]; omega), hf]
      have := ih k (by simpa using hk) hx
      rw [← this]
      congr 2
      rw [Nat.mul_succ]; omega

/-- an element of a slice of rows -/
theorem row_at {α : Type} {f : α → List Value} {n : Nat} (hf : ∀ x, (f x).length = n) (hn : 0 < n) {w : World} {e : TypeId} {q : Sh} {l : List α} (h : Own w e n q ((l.map f).flatten)) (hl : ((l.map f).flatten).length = n * l.length) {k : Nat} (hk : k < l.length) :
    ∃ g off, q.1 = some ⟨g, off, none⟩ ∧ idxA q.1 q.2.1 n (k : Int) = some ⟨g, off + k * n, none⟩ ∧ (∀ j, j < n → w.cell? ⟨g, off + k * n + j, none⟩ = (f l[k])[j]?) ∧
      (∀ j, j < n → ∀ (x : α) (v : Value), v.oneCell' = true → f x = (f l[k]).set j v → ∃ w', st1 w ⟨g, off + k * n + j, none⟩ v = some w' ∧ Own w' e n q (((l.set k x).map f).flatten) ∧ Fr (blkOf q) w w') := by
  have h1 := h.len
  rw [hl] at h1
  have hq : q.2.1 = l.length := by
    have : n * l.length = n * q.2.1 := by rw [h1, Nat.mul_comm]
    exact (Nat.eq_of_mul_eq_mul_left hn this).symm
  obtain ⟨g, off, q1, i1⟩ := h.idx (i := k) (by omega)
  have hlt : ∀ j, j < n → n * k + j < ((l.map f).flatten).length := by
    intro j hj
    rw [hl]
    have : n * (k + 1) ≤ n * l.length := Nat.mul_le_mul_left n hk
    rw [Nat.mul_succ] at this
    omega
  refine ⟨g, off, q1, i1, fun j hj => ?_, fun j hj x v hv hx => ?_⟩
  · have hg := h.get q1 (n * k + j) (hlt j hj)
    have : off + k * n + j = off + (n * k + j) := by rw [Nat.mul_comm k n]; omega
    rw [this, hg, ← flat_get hf l k j hk hj]
    exact (List.getElem?_eq_getElem (hlt j hj)).symm
  · obtain ⟨s1, o1, f1⟩ := h.set q1 (k := n * k + j) (hlt j hj) (u := v) hv
    have e1 : off + k * n + j = off + (n * k + j) := by rw [Nat.mul_comm k n]; omega
    rw [flat_set hf l k j hk hj x v hx] at o1
    exact ⟨_, by rw [e1]; exact s1, o1, f1⟩

structure PeOk (w : World) (D : Nat → Prop) (e : PE) : Prop where
  oi : Own w 3 1 e.qi (intsV' e.v.isr)
  or_ : Own w 3 1 e.qr (intsV' e.v.rep)
  ot : Own w 3 1 e.qt (intsV' e.v.tgt)
  reg : (∀ y ∈ blkOf e.qi, D y) ∧ (∀ y ∈ blkOf e.qr, D y) ∧ ∀ y ∈ blkOf e.qt, D y
  len : e.v.isr.length ≤ 1000000000 ∧ e.v.rep.length ≤ 1000000000 ∧ e.v.tgt.length ≤ 1000000000

theorem PeOk.fr {w w' : World} {D D' : Nat → Prop} {e : PE} {S : List Nat} (h : PeOk w D e) (hf : Fr S w w') (hS : ∀ y ∈ S, y ∉ blkOf e.qi ∧ y ∉ blkOf e.qr ∧ y ∉ blkOf e.qt) (hD : ∀ y, D y → D' y) : PeOk w' D' e :=
  ⟨h.oi.fr hf (fun y hy hm => (hS y hm).1 hy), h.or_.fr hf (fun y hy hm => (hS y hm).2.1 hy), h.ot.fr hf (fun y hy hm => (hS y hm).2.2 hy), ⟨fun y hy => hD y (h.reg.1 y hy), fun y hy => hD y (h.reg.2.1 y hy), fun y hy => hD y (h.reg.2.2 y hy)⟩, h.len⟩

/-- an image in memory -/
structure Raw (w : World) (D : Nat → Prop) (b c : Nat) (nq pq : Sh) (ns : List NV) (es : List PE) (next count : Int) : Prop where
  tbl : Blk w b [.slice nq.1 nq.2.1 nq.2.2, .slice pq.1 pq.2.1 pq.2.2, .pointer (some ⟨c, 0, none⟩), .int .i64 count] 79
  nd : Own w 85 3 nq (ndCs ns)
  pt : Own w 30 6 pq (ptCs es)
  ct : Ctr w c next 1001
  ok : ∀ e ∈ es, PeOk w D e
  rb : D b
  rc : D c
  rn : ∀ y ∈ blkOf nq, D y
  rp : ∀ y ∈ blkOf pq, D y
  lt : ∀ y, D y → y < w.heap.size

theorem Raw.nlen {w : World} {D : Nat → Prop} {b c : Nat} {nq pq : Sh} {ns : List NV} {es : List PE} {next count : Int} (h : Raw w D b c nq pq ns es next count) : nq.2.1 = ns.length := by
  have := h.nd.len; rw [ndCs_len] at this; omega
theorem Raw.plen {w : World} {D : Nat → Prop} {b c : Nat} {nq pq : Sh} {ns : List NV} {es : List PE} {next count : Int} (h : Raw w D b c nq pq ns es next count) : pq.2.1 = es.length := by
  have := h.pt.len; rw [ptCs_len] at this; omega

theorem Raw.fr {w w' : World} {D : Nat → Prop} {b c : Nat} {nq pq : Sh} {ns : List NV} {es : List PE} {next count : Int} {S : List Nat} (h : Raw w D b c nq pq ns es next count) (hf : Fr S w w') (hS : ∀ y ∈ S, y < w.heap.size → ¬ D y) : Raw w' D b c nq pq ns es next count := by
  have hf' := fr_old hf
  have hS' : ∀ y ∈ S.filter (· < w.heap.size), ¬ D y := by intro y hy; simp at hy; exact hS y hy.1 hy.2
  refine ⟨h.tbl.fr hf' (fun hm => hS' _ hm h.rb), h.nd.fr hf' (fun y hy hm => hS' y hm (h.rn y hy)), h.pt.fr hf' (fun y hy hm => hS' y hm (h.rp y hy)), h.ct.fr hf' (fun hm => hS' _ hm h.rc), fun e he => (h.ok e he).fr hf' (fun y hy => ⟨fun hm => hS' y hy ((h.ok e he).reg.1 y hm), fun hm => hS' y hy ((h.ok e he).reg.2.1 y hm), fun hm => hS' y hy ((h.ok e he).reg.2.2 y hm)⟩) (fun _ => id), h.rb, h.rc, h.rn, h.rp, fun y hy => ?_⟩
  have := h.lt y hy; have := hf.size; omega
end Go.Proofs.Ytjcenfgmpbeldaa
