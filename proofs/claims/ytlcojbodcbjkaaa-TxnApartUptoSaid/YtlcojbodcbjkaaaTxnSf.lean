/-
  TxnSf: lemmas on what Go functions of this seat come to (for whatever arguments, as each says). No condition but those that stand in each lemma.
-/
import Derived.Test.YtlcojbodcbjkaaaTxnSe
namespace Go.Proofs.Ytlcojbodcbjkaaa.SQ
open Go Go.Ev
set_option maxRecDepth 100000
set_option linter.unusedVariables false
set_option linter.unusedSimpArgs false

abbrev RTq := Option (Exit × (Int × Int × Int × Bool × Bool) × World)
noncomputable def tl50 (u0 : ShI) (a b lim p : Int) (x : World) : RTq :=
(callF Try.prog 79 #[.slice u0.1 u0.2.1 u0.2.2, .int .i64 a, .int .i64 b, .int .i64 p] x).bind fun r33 =>
(asTup 2 r33.1).bind fun l34 =>
(asI .i64 (l34.getD 0 undef)).bind fun n35 =>
(asB (l34.getD 1 undef)).bind fun b36 =>
if (decide (((IntKind.i64.wrap (n35 - a)) : Int) < (IntKind.i64.wrap (b - n35)))) = true then
((callF Try.prog 63 #[.slice u0.1 u0.2.1 u0.2.2, .int .i64 a, .int .i64 n35, .int .i64 lim] r33.2).bind fun r37 =>
(asTup 0 r37.1).bind fun _ =>
some (.normal, ((IntKind.i64.wrap (n35 + 1)), b, lim, (decide (((IntKind.i64.wrap (n35 - a)) : Int) ≥ (IntKind.i64.wrap (Int.tdiv (IntKind.i64.wrap (b - a)) 8)))), b36), r37.2))
else
((callF Try.prog 63 #[.slice u0.1 u0.2.1 u0.2.2, .int .i64 (IntKind.i64.wrap (n35 + 1)), .int .i64 b, .int .i64 lim] r33.2).bind fun r38 =>
(asTup 0 r38.1).bind fun _ =>
some (.normal, (a, n35, lim, (decide (((IntKind.i64.wrap (b - n35)) : Int) ≥ (IntKind.i64.wrap (Int.tdiv (IntKind.i64.wrap (b - a)) 8)))), b36), r38.2))
noncomputable def tlE (u0 : ShI) (a b lim : Int) (bal par : Bool) (p : Int) (x : World) : RTq :=
if (decide ((a : Int) > 0)) = true then
((idxA u0.1 u0.2.1 1 (IntKind.i64.wrap (a - 1))).bind fun a17 =>
(World.cell? (World.drew x) a17).bind fun v18 =>
(asI .i64 v18).bind fun s19 =>
(idxA u0.1 u0.2.1 1 p).bind fun a20 =>
(World.cell? (World.drew x) a20).bind fun v21 =>
(asI .i64 v21).bind fun s22 =>
(callF Try.prog 77 #[.int .i64 s19, .int .i64 s22] (World.drew x)).bind fun r23 =>
(asB r23.1).bind fun b24 =>
if (!b24) = true then
((callF Try.prog 78 #[.slice u0.1 u0.2.1 u0.2.2, .int .i64 a, .int .i64 b, .int .i64 p] r23.2).bind fun r25 =>
(asI .i64 r25.1).bind fun n26 =>
some (.normal, (n26, b, lim, bal, par), r25.2))
else tl50 u0 a b lim p r23.2)
else tl50 u0 a b lim p (World.drew x)
noncomputable def tlP (u0 : ShI) (a b lim : Int) (bal par : Bool) (p : Int) (x : World) : RTq :=
((callF Try.prog 76 #[.slice u0.1 u0.2.1 u0.2.2, .int .i64 a, .int .i64 b] x).bind fun r15 =>
(asB r15.1).bind fun b16 =>
if b16 = true then
(some (.ret, (a, b, lim, bal, par), r15.2))
else tlE u0 a b lim bal par p r15.2)
noncomputable def tlR (u0 : ShI) (a b lim : Int) (bal par : Bool) (p : Int) (x : World) : RTq :=
if bal = true then (if par = true then tlP u0 a b lim bal par p x else tlE u0 a b lim bal par p x) else tlE u0 a b lim bal par p x
noncomputable def tlN (u0 : ShI) (a b lim : Int) (bal par : Bool) (p c : Int) (x : World) : RTq :=
if bal = true then (if par = true then (if ((c : Int) == 1) = true then tlP u0 a b lim bal par p x else tlE u0 a b lim bal par p x) else tlE u0 a b lim bal par p x) else tlE u0 a b lim bal par p x
noncomputable def tlV (u0 : ShI) (a b lim : Int) (bal par : Bool) (x : World) : RTq :=
(callF Try.prog 74 #[.slice u0.1 u0.2.1 u0.2.2, .int .i64 a, .int .i64 b] x).bind fun r8 =>
(asTup 2 r8.1).bind fun l9 =>
(asI .i64 (l9.getD 0 undef)).bind fun n10 =>
(asI .i64 (l9.getD 1 undef)).bind fun n11 =>
if ((n11 : Int) == 2) = true then
((callF Try.prog 75 #[.slice u0.1 u0.2.1 u0.2.2, .int .i64 a, .int .i64 b] r8.2).bind fun r13 =>
(asTup 0 r13.1).bind fun _ =>
tlR u0 a b lim bal par (IntKind.i64.wrap ((IntKind.i64.wrap (b - 1)) - (IntKind.i64.wrap (n10 - a)))) r13.2)
else tlN u0 a b lim bal par n10 n11 r8.2
noncomputable def tlW (u0 : ShI) (s2 : Int × Int × Int × Bool × Bool) (w3 : World) : RTq :=
if (decide (((IntKind.i64.wrap (s2.2.1 - s2.1)) : Int) ≤ 12)) = true then
((callF Try.prog 71 #[.slice u0.1 u0.2.1 u0.2.2, .int .i64 s2.1, .int .i64 s2.2.1] w3).bind fun r4 =>
(asTup 0 r4.1).bind fun _ =>
some (.ret, (s2.1, s2.2.1, s2.2.2.1, s2.2.2.2.1, s2.2.2.2.2), r4.2))
else
(if ((s2.2.2.1 : Int) == 0) = true then
((callF Try.prog 72 #[.slice u0.1 u0.2.1 u0.2.2, .int .i64 s2.1, .int .i64 s2.2.1] w3).bind fun r5 =>
(asTup 0 r5.1).bind fun _ =>
some (.ret, (s2.1, s2.2.1, s2.2.2.1, s2.2.2.2.1, s2.2.2.2.2), r5.2))
else
(if (!s2.2.2.2.1) = true then
((callF Try.prog 73 #[.slice u0.1 u0.2.1 u0.2.2, .int .i64 s2.1, .int .i64 s2.2.1] w3).bind fun r7 =>
(asTup 0 r7.1).bind fun _ =>
tlV u0 s2.1 s2.2.1 (IntKind.i64.wrap (s2.2.2.1 - 1)) s2.2.2.2.1 s2.2.2.2.2 r7.2)
else tlV u0 s2.1 s2.2.1 s2.2.2.1 s2.2.2.2.1 s2.2.2.2.2 w3))
theorem g63_l1_flat (u0 : ShI) (s2 : Int × Int × Int × Bool × Bool) (w3 : World) : g63_l1_b u0 s2 w3 = tlW u0 s2 w3 := by kernel_rfl

section
variable {q : ShI} {g off : Nat} {W w : World} {d : Array Int} {β : Type} {f : Value × World → Option β} {Q : β → Prop} {a b p : Nat}
theorem wp_ins (h : J q g off W w d) (ha : a ≤ q.2.1) (hb : b ≤ q.2.1) (hf : ∀ w', J q g off W w' (Sort.insertionSort Sort.ltInt d a b) → wp (f (.tuple #[], w')) Q) : wp ((callF Try.prog 71 #[.slice q.1 q.2.1 q.2.2, .int .i64 (a : Int), .int .i64 (b : Int)] w).bind f) Q := by
  obtain ⟨w', e, h'⟩ := ins71 h ha hb
  exact wp_bind e (hf _ h')
theorem wp_heap (h : J q g off W w d) (hab : a < b) (hb : b ≤ q.2.1) (hf : ∀ w', J q g off W w' (Sort.heapSort Sort.ltInt d a b) → wp (f (.tuple #[], w')) Q) : wp ((callF Try.prog 72 #[.slice q.1 q.2.1 q.2.2, .int .i64 (a : Int), .int .i64 (b : Int)] w).bind f) Q := by
  obtain ⟨w', e, h'⟩ := heap72 h hab hb
  exact wp_bind e (hf _ h')
theorem wp_brk (hn : q.2.1 < 4294967296) (h : J q g off W w d) (hab : a < b) (hb : b ≤ q.2.1) (hf : ∀ w' d', J q g off W w' d' → Sort.PermIn a b d d' → wp (f (.tuple #[], w')) Q) : wp ((callF Try.prog 73 #[.slice q.1 q.2.1 q.2.2, .int .i64 (a : Int), .int .i64 (b : Int)] w).bind f) Q := by
  obtain ⟨d', w', e, h', hp⟩ := break73 h hab hb hn
  exact wp_bind e (hf _ _ h' hp)
theorem wp_rev (h : J q g off W w d) (hab : a < b) (hb : b ≤ q.2.1) (hf : ∀ w', J q g off W w' (Sort.reverseRange d a b) → wp (f (.tuple #[], w')) Q) : wp ((callF Try.prog 75 #[.slice q.1 q.2.1 q.2.2, .int .i64 (a : Int), .int .i64 (b : Int)] w).bind f) Q := by
  obtain ⟨w', e, h'⟩ := rev75 h (a := a) (b := b) (by omega) hb (by omega)
  exact wp_bind e (hf _ h')
theorem wp_pis (h : J q g off W w d) (hab : a < b) (hb : b ≤ q.2.1) (hf : ∀ w', J q g off W w' (Sort.partialInsertionSort Sort.ltInt d a b).1 → wp (f (.bool (Sort.partialInsertionSort Sort.ltInt d a b).2, w')) Q) : wp ((callF Try.prog 76 #[.slice q.1 q.2.1 q.2.2, .int .i64 (a : Int), .int .i64 (b : Int)] w).bind f) Q := by
  obtain ⟨w', e, h'⟩ := partial76 h hab hb
  exact wp_bind e (hf _ h')
theorem wp_piv (h : J q g off W w d) (hab : a < b) (hb : b ≤ q.2.1) (hf : ∀ (x : Nat) (c : Int) w', J q g off W w' d → a ≤ x → x < b → wp (f (.tuple #[.int .i64 (x : Int), .int .i64 c], w')) Q) : wp ((callF Try.prog 74 #[.slice q.1 q.2.1 q.2.2, .int .i64 (a : Int), .int .i64 (b : Int)] w).bind f) Q := by
  obtain ⟨x, c, w', e, h', h1, h2⟩ := pivot74 h (a := (a : Int)) (b := (b : Int)) (by omega) (by omega) (by omega)
  obtain ⟨x, rfl⟩ : ∃ y : Nat, x = (y : Int) := ⟨x.toNat, by omega⟩
  exact wp_bind e (hf _ _ _ h' (by omega) (by omega))
theorem wp_peq (h : J q g off W w d) (hab : a < b) (hb : b ≤ q.2.1) (hp1 : a ≤ p) (hp2 : p < b) (hf : ∀ w', J q g off W w' (Sort.partitionEqual Sort.ltInt d a b p).2 → wp (f (.int .i64 ((Sort.partitionEqual Sort.ltInt d a b p).1 : Int), w')) Q) : wp ((callF Try.prog 78 #[.slice q.1 q.2.1 q.2.2, .int .i64 (a : Int), .int .i64 (b : Int), .int .i64 (p : Int)] w).bind f) Q := by
  obtain ⟨w', e, h'⟩ := partEq78 h hab hb ⟨hp1, hp2⟩
  exact wp_bind e (hf _ h')
theorem wp_par (h : J q g off W w d) (hab : a < b) (hb : b ≤ q.2.1) (hp1 : a ≤ p) (hp2 : p < b) (hf : ∀ w', J q g off W w' (Sort.partition Sort.ltInt d a b p).2.2 → wp (f (.tuple #[.int .i64 ((Sort.partition Sort.ltInt d a b p).1 : Int), .bool (Sort.partition Sort.ltInt d a b p).2.1], w')) Q) : wp ((callF Try.prog 79 #[.slice q.1 q.2.1 q.2.2, .int .i64 (a : Int), .int .i64 (b : Int), .int .i64 (p : Int)] w).bind f) Q := by
  obtain ⟨w', e, h'⟩ := part79 h hab hb ⟨hp1, hp2⟩
  exact wp_bind e (hf _ h')
end

/-- a stretch is in order to be sorted: whatever sorted rearrangement of it comes back, the whole is done -/
structure Ok (q : ShI) (F : Array Int → Prop) (a b : Nat) (d : Array Int) : Prop where
  le : a ≤ b
  lt : b ≤ q.2.1
  sz : d.size = q.2.1
  below : Sort.Below Sort.ltInt a b d
  fin : ∀ R, Sort.PermIn a b d R → Sort.SortedIn Sort.ltInt a b R → F R
theorem swo : Sort.SWO Sort.ltInt := Sort.swo_ltInt
theorem Ok.perm {q : ShI} {F : Array Int → Prop} {a b : Nat} {d d' : Array Int} (h : Ok q F a b d) (hp : Sort.PermIn a b d d') : Ok q F a b d' :=
  ⟨h.le, h.lt, by rw [hp.1, h.sz], h.below.perm (by rw [h.sz]; exact h.lt) hp, fun R h1 h2 => h.fin R (Sort.permIn_trans _ _ _ _ _ hp h1) h2⟩

section
variable {q : ShI} {g off : Nat} {W : World} {F : Array Int → Prop}
/-- what a round of the sort comes to -/
def RQ (q : ShI) (g off : Nat) (W : World) (F : Array Int → Prop) (a b : Nat) (r : Exit × (Int × Int × Int × Bool × Bool) × World) : Prop :=
  r.1 = .normal ∧ (∃ (x y : Nat) (d : Array Int), r.2.1.1 = (x : Int) ∧ r.2.1.2.1 = (y : Int) ∧ Ok q F x y d ∧ J q g off W r.2.2 d) ∧ (r.2.1.2.1 - r.2.1.1).toNat < ((b : Int) - (a : Int)).toNat ∨ r.1 ≠ .normal ∧ r.1 = .ret ∧ ∃ d, J q g off W r.2.2 d ∧ F d
theorem rq_n {a b x y : Nat} {l : Int} {f f' : Bool} {w : World} {d : Array Int} (h1 : Ok q F x y d) (h4 : y - x < b - a) (h : J q g off W w d) : wp (some (Exit.normal, ((x : Int), (y : Int), l, f, f'), w)) (RQ q g off W F a b) :=
  wp_some (.inl ⟨rfl, ⟨x, y, d, rfl, rfl, h1, h⟩, by have := h1.le; simp only; omega⟩)
theorem rq_r {a b : Nat} {s : Int × Int × Int × Bool × Bool} {w : World} {d : Array Int} (h : J q g off W w d) (hF : F d) : wp (some (Exit.ret, s, w)) (RQ q g off W F a b) := wp_some (.inr ⟨by simp, rfl, d, h, hF⟩)

/-- the sort of a shorter stretch -/
def Rec (q : ShI) (g off : Nat) (n : Nat) : Prop := ∀ {W w : World} {d : Array Int} (_ : J q g off W w d) {a b : Nat} {lim : Int}, a ≤ b → b ≤ q.2.1 → b - a < n → Sort.Below Sort.ltInt a b d →
    ∃ d' w', callF Try.prog 63 #[.slice q.1 q.2.1 q.2.2, .int .i64 (a : Int), .int .i64 (b : Int), .int .i64 lim] w = some (.tuple #[], w') ∧ J q g off W w' d' ∧ Sort.PermIn a b d d' ∧ Sort.SortedIn Sort.ltInt a b d'
theorem wp_rec {n : Nat} (hr : Rec q g off n) {β : Type} {f : Value × World → Option β} {Q : β → Prop} {x : World} {d : Array Int} {a b : Nat} {l : Int} (hx : J q g off W x d) (h2 : a ≤ b) (h3 : b ≤ q.2.1) (h4 : b - a < n) (hB : Sort.Below Sort.ltInt a b d) (hf : ∀ d' w', J q g off W w' d' → Sort.PermIn a b d d' → Sort.SortedIn Sort.ltInt a b d' → wp (f (.tuple #[], w')) Q) :
    wp ((callF Try.prog 63 #[.slice q.1 q.2.1 q.2.2, .int .i64 (a : Int), .int .i64 (b : Int), .int .i64 l] x).bind f) Q := by
  obtain ⟨d', w', e, h', hp, hs⟩ := hr hx h2 h3 h4 hB (lim := l)
  exact wp_bind e (hf _ _ h' hp hs)

variable {n : Nat} {a b p : Nat} {d : Array Int}
theorem tl50_ok (hr : Rec q g off n) (ok : Ok q F a b d) (h2 : a < b) (h5 : b - a ≤ n) {lim : Int} (hp1 : a ≤ p) (hp2 : p < b) {x : World} (hx : J q g off W x d) : wp (tl50 q a b lim p x) (RQ q g off W F a b) := by
  have hle := hx.le
  have hlt := ok.lt
  have hsz := ok.sz
  unfold tl50
  refine wp_par hx h2 ok.lt hp1 hp2 fun w1 hw1 => wp_bind (asTup2 ..) (wp_bind (asI_int ..) (wp_bind (asB_bool ..) ?_))
  obtain ⟨mid, ap, d4, e⟩ : ∃ mid ap d4, Sort.partition Sort.ltInt d a b p = (mid, ap, d4) := ⟨_, _, _, rfl⟩
  obtain ⟨g1, g2, hs4, hBa, hBr, hleft, hright⟩ := Sort.round_part swo (Sort.partition_holds Sort.ltInt) hp1 hp2 (by omega) ok.below e
  rw [e] at hw1 ⊢
  simp only at hw1 ⊢
  rw [wadd1 (by omega)]
  refine wp_if (fun _ => ?_) (fun _ => ?_)
  · refine wp_rec hr hw1 g1 (by omega) (by omega) hBa fun L w2 hw2 l1 l2 => wp_bind asTup0 ?_
    obtain ⟨b1, b2⟩ := hleft L l1 l2
    exact rq_n ⟨by omega, hlt, by rw [l1.1, hs4, hsz], b1, fun R r1 r2 => by obtain ⟨k1, k2⟩ := b2 R r1 r2; exact ok.fin R k1 k2⟩ (by omega) hw2
  · refine wp_rec hr hw1 (by omega) (by omega) (by omega) hBr fun L w2 hw2 l1 l2 => wp_bind asTup0 ?_
    obtain ⟨b1, b2⟩ := hright L l1 l2
    exact rq_n ⟨g1, by omega, by rw [l1.1, hs4, hsz], b1, fun R r1 r2 => by obtain ⟨k1, k2⟩ := b2 R r1 r2; exact ok.fin R k1 k2⟩ (by omega) hw2
theorem tlE_ok (hr : Rec q g off n) (ok : Ok q F a b d) (h2 : a < b) (h5 : b - a ≤ n) {lim : Int} {f f' : Bool} (hp1 : a ≤ p) (hp2 : p < b) {x : World} (hx : J q g off W x d) : wp (tlE q a b lim f f' p x) (RQ q g off W F a b) := by
  have hle := hx.le
  have hlt := ok.lt
  have hsz := ok.sz
  unfold tlE
  refine wp_if (fun c => ?_) (fun _ => tl50_ok hr ok h2 h5 hp1 hp2 hx.drew)
  simp only [decide_eq_true_eq] at c
  rw [wsub1 (by omega) (by omega)]
  (refine wp_lt (by (first | assumption | (apply J.drew; assumption) | (apply J.drew; apply J.drew; assumption) | (apply J.drew; apply J.drew; apply J.drew; assumption) | (apply J.drew; apply J.drew; apply J.drew; apply J.drew; assumption) | (apply J.drew; apply J.drew; apply J.drew; apply J.drew; apply J.drew; assumption))) (by omega) (by omega) (wp_bind (asB_bool ..) ?_))
  refine wp_if (fun c2 => ?_) (fun _ => tl50_ok hr ok h2 h5 hp1 hp2 (by (first | assumption | (apply J.drew; assumption) | (apply J.drew; apply J.drew; assumption) | (apply J.drew; apply J.drew; apply J.drew; assumption) | (apply J.drew; apply J.drew; apply J.drew; apply J.drew; assumption) | (apply J.drew; apply J.drew; apply J.drew; apply J.drew; apply J.drew; assumption))))
  refine wp_peq (W := W) (g := g) (off := off) (d := d) (by (first | assumption | (apply J.drew; assumption) | (apply J.drew; apply J.drew; assumption) | (apply J.drew; apply J.drew; apply J.drew; assumption) | (apply J.drew; apply J.drew; apply J.drew; apply J.drew; assumption) | (apply J.drew; apply J.drew; apply J.drew; apply J.drew; apply J.drew; assumption))) h2 hlt hp1 hp2 fun w1 hw1 => wp_bind (asI_int ..) ?_
  obtain ⟨mid, d4, e⟩ : ∃ mid d4, Sort.partitionEqual Sort.ltInt d a b p = (mid, d4) := ⟨_, _, rfl⟩
  obtain ⟨g1, g2, hs4, hB4, hfin⟩ := Sort.round_eq swo (Sort.partitionEqual_holds Sort.ltInt) (by omega) hp1 hp2 (by omega) ok.below (by simpa using c2) e
  rw [e] at hw1 ⊢
  simp only at hw1 ⊢
  exact rq_n ⟨g2, hlt, by omega, hB4, fun R r1 r2 => by obtain ⟨k1, k2⟩ := hfin R r1 r2; exact ok.fin R k1 k2⟩ (by omega) hw1
theorem tlP_ok (hr : Rec q g off n) (ok : Ok q F a b d) (h2 : a < b) (h5 : b - a ≤ n) {lim : Int} {f f' : Bool} (hp1 : a ≤ p) (hp2 : p < b) {x : World} (hx : J q g off W x d) : wp (tlP q a b lim f f' p x) (RQ q g off W F a b) := by
  have hlt := ok.lt
  have hsz := ok.sz
  unfold tlP
  refine wp_pis hx h2 hlt fun w1 hw1 => wp_bind (asB_bool _) ?_
  have s := Sort.partialInsertionSort_holds (lt := Sort.ltInt) swo d a b h2 (by omega) ok.below
  refine wp_if (fun c => rq_r hw1 (ok.fin _ s.1 (s.2 c))) (fun _ => tlE_ok hr (ok.perm s.1) h2 h5 hp1 hp2 hw1)
theorem tlR_ok (hr : Rec q g off n) (ok : Ok q F a b d) (h2 : a < b) (h5 : b - a ≤ n) {lim : Int} {f f' : Bool} (hp1 : a ≤ p) (hp2 : p < b) {x : World} (hx : J q g off W x d) : wp (tlR q a b lim f f' p x) (RQ q g off W F a b) := by
  have E := tlE_ok hr ok h2 h5 (lim := lim) (f := f) (f' := f') hp1 hp2 hx
  unfold tlR
  exact wp_if (fun _ => wp_if (fun _ => tlP_ok hr ok h2 h5 hp1 hp2 hx) (fun _ => E)) (fun _ => E)
theorem tlN_ok (hr : Rec q g off n) (ok : Ok q F a b d) (h2 : a < b) (h5 : b - a ≤ n) {lim c : Int} {f f' : Bool} (hp1 : a ≤ p) (hp2 : p < b) {x : World} (hx : J q g off W x d) : wp (tlN q a b lim f f' p c x) (RQ q g off W F a b) := by
  have E := tlE_ok hr ok h2 h5 (lim := lim) (f := f) (f' := f') hp1 hp2 hx
  unfold tlN
  exact wp_if (fun _ => wp_if (fun _ => wp_if (fun _ => tlP_ok hr ok h2 h5 hp1 hp2 hx) (fun _ => E)) (fun _ => E)) (fun _ => E)
theorem tlV_ok (hr : Rec q g off n) (ok : Ok q F a b d) (h2 : a < b) (h5 : b - a ≤ n) {lim : Int} {f f' : Bool} {x : World} (hx : J q g off W x d) : wp (tlV q a b lim f f' x) (RQ q g off W F a b) := by
  have hle := hx.le
  have hlt := ok.lt
  have hsz := ok.sz
  unfold tlV
  refine wp_piv hx h2 hlt fun y c w1 hw1 hy1 hy2 => wp_bind (asTup2 ..) (wp_bind (asI_int ..) (wp_bind (asI_int ..) ?_))
  refine wp_if (fun _ => ?_) (fun _ => tlN_ok hr ok h2 h5 hy1 hy2 hw1)
  refine wp_rev hw1 h2 hlt fun w2 hw2 => wp_bind asTup0 ?_
  rw [wsub1 (by omega) (by omega), wsub (by omega) (by omega), wsub (by omega) (by omega)]
  exact tlR_ok hr (ok.perm (Sort.reverseRange_holds d a b (by omega) (by omega))) h2 h5 (by omega) (by omega) hw2

theorem pdq63 (hn : q.2.1 < 4294967296) (n : Nat) : Rec q g off n := by
  induction n with
  | zero => intro W w d h a b lim hab hb hd; omega
  | succ n hr =>
    intro W w d h a b lim hab hb hd hB
    have hle := h.le
    obtain ⟨e, t, w', g1, rfl, R, hJ, hR⟩ := loop_wp (b := g63_l1_b q) (I := fun s x => ∃ (a' b' : Nat) (d' : Array Int), s.1 = (a' : Int) ∧ s.2.1 = (b' : Int) ∧ b' - a' ≤ b - a ∧ Ok q (fun R => Sort.PermIn a b d R ∧ Sort.SortedIn Sort.ltInt a b R) a' b' d' ∧ J q g off W x d') (Q := fun e s x => e = .ret ∧ ∃ R, J q g off W x R ∧ Sort.PermIn a b d R ∧ Sort.SortedIn Sort.ltInt a b R) (fun s => (s.2.1 - s.1).toNat)
      (fun s x ⟨a', b', d', hs1, hs2, hs3, ok, hx⟩ => by
        obtain ⟨x1, x2, l', bal, par⟩ := s
        simp only at hs1 hs2
        subst hs1 hs2
        rw [g63_l1_flat]
        have hlt := ok.lt
        have hab' := ok.le
        have hsz := ok.sz
        suffices H : wp (tlW q ((a' : Int), (b' : Int), l', bal, par) x) (RQ q g off W (fun R => Sort.PermIn a b d R ∧ Sort.SortedIn Sort.ltInt a b R) a' b') from by
          refine wp_mono H ?_
          rintro r (⟨r1, ⟨x, y, d1, r2, r3, r4, r5⟩, r6⟩ | ⟨r1, r2, d1, r3, r4⟩)
          · exact .inl ⟨r1, ⟨x, y, d1, r2, r3, by rw [r2, r3] at r6; have := r4.le; omega, r4, r5⟩, r6⟩
          · exact .inr ⟨r1, r2, d1, r3, r4⟩
        unfold tlW
        have wba : IntKind.i64.wrap ((b' : Int) - (a' : Int)) = ((b' - a' : Nat) : Int) := wsub (by omega) (by omega)
        refine wp_if (fun c => ?_) (fun c => ?_)
        · refine wp_ins hx (by omega) (by omega) fun w1 hw1 => wp_bind asTup0 (rq_r hw1 ?_)
          have s := Sort.insertionSort_holds (lt := Sort.ltInt) swo d' a' b' hab' (by omega)
          exact ok.fin _ s.1 s.2
        simp only [wba, decide_eq_true_eq] at c
        refine wp_if (fun c2 => ?_) (fun c2 => ?_)
        · refine wp_heap hx (by omega) (by omega) fun w1 hw1 => wp_bind asTup0 (rq_r hw1 ?_)
          have s := Sort.heapSort_holds (lt := Sort.ltInt) swo d' a' b' hab' (by omega)
          exact ok.fin _ s.1 s.2
        refine wp_if (fun c3 => ?_) (fun c3 => ?_)
        · exact wp_brk hn hx (by omega) (by omega) fun w1 d1 hw1 hp => wp_bind asTup0 (tlV_ok hr (ok.perm hp) (by omega) (by omega) hw1)
        · exact tlV_ok hr ok (by omega) (by omega) hx)
      (s := ((a : Int), (b : Int), lim, true, true)) (w := w) ⟨a, b, d, rfl, rfl, Nat.le_refl _, ⟨hab, hb, h.size, hB, fun R h1 h2 => ⟨h1, h2⟩⟩, h⟩
    refine ⟨R, w', g63_call ?_, hJ, hR⟩
    unfold g63
    rw [g63_l1_ret_of g1, g63_l1_ret]
end

/-- slices.Sort of whole numbers: the row is the sorted row of the same numbers afterwards -/
theorem sort33 {q : ShI} {w : World} {zs : List Int} (o : Own w 3 1 q (zs.map (Value.int .i64))) (hn : q.2.1 < 4294967296) :
    ∃ w', callF Try.prog 33 #[.slice q.1 q.2.1 q.2.2] w = some (.tuple #[], w') ∧ Own w' 3 1 q ((zs.mergeSort (fun x y => decide (x ≤ y))).map (Value.int .i64)) ∧ Fr (blkOf q) w w' := by
  have wu : IntKind.u64.wrap (q.2.1 : Int) = (q.2.1 : Int) := wrap_u64 (by omega) (by omega)
  have hl : zs.length = q.2.1 := by have := o.len; simpa using this
  have e1 : ∃ n, callF Try.prog 64 #[.int .u64 (q.2.1 : Int)] w = some (.int .i64 n, w) := by
    by_cases h0 : 1 ≤ q.2.1
    · obtain ⟨m, e, _⟩ := lenS w h0 hn
      exact ⟨m, g64_call (by unfold g64; simp only [e, obs, asP_pointer, asB_bool, asI_int, asS_string, asSl_slice, asM_map, asTup0, asTup1, asTup2, asTup3, asTup4, asTup5, asTup6, asTup7, asTup8, asTup9, asAgg2, asAgg3, asAgg4, asAgg5, asAgg6, asAgg7, asAgg8, asAgg9, asAgg12, getD0, getD1, getD2, getD3, getD4, getD5, getD6, getD7, getD8, getD9, getD10, getD11, getD12, getD13, getD14, getD15, getD16, getD17, getD18, getD19, Bool.not_true, Bool.not_false, Bool.false_eq_true, Bool.true_eq_false, ↓reduceIte, decide_true, decide_false, Option.isNone_some, Option.isNone_none, Option.isSome_some, Option.isSome_none, beq_self_eq_true, bne_self_eq_false, Bool.and_true, Bool.true_and, Bool.and_false, Bool.false_and, not_true_eq_false, not_false_eq_true])⟩
    · have : q.2.1 = 0 := by omega
      rw [this]
      refine ⟨0, g64_call ?_⟩
      have e : callF Try.prog 81 #[.int .u64 ((0 : Nat) : Int)] w = some (.int .i64 0, w) := by
        refine g81_call ?_
        rfl
      unfold g64
      simp only [e, obs, asP_pointer, asB_bool, asI_int, asS_string, asSl_slice, asM_map, asTup0, asTup1, asTup2, asTup3, asTup4, asTup5, asTup6, asTup7, asTup8, asTup9, asAgg2, asAgg3, asAgg4, asAgg5, asAgg6, asAgg7, asAgg8, asAgg9, asAgg12, getD0, getD1, getD2, getD3, getD4, getD5, getD6, getD7, getD8, getD9, getD10, getD11, getD12, getD13, getD14, getD15, getD16, getD17, getD18, getD19, Bool.not_true, Bool.not_false, Bool.false_eq_true, Bool.true_eq_false, ↓reduceIte, decide_true, decide_false, Option.isNone_some, Option.isNone_none, Option.isSome_some, Option.isSome_none, beq_self_eq_true, bne_self_eq_false, Bool.and_true, Bool.true_and, Bool.and_false, Bool.false_and, not_true_eq_false, not_false_eq_true]
  obtain ⟨n, e1⟩ := e1
  have hat : ∃ g off, 0 < q.2.1 → q.1 = some ⟨g, off, none⟩ := by
    by_cases h0 : 0 < q.2.1
    · obtain ⟨g, off, h, _⟩ := o.idx h0
      exact ⟨g, off, fun _ => h⟩
    · exact ⟨0, 0, fun h => absurd h h0⟩
  obtain ⟨g, off, hat⟩ := hat
  have h : J q g off w w zs.toArray := ⟨hat, by simpa using o, Fr.refl _ _, by omega⟩
  obtain ⟨d', w', e2, h2, hp, hs⟩ := pdq63 hn (q.2.1 + 1) h (a := 0) (b := q.2.1) (lim := n) (by omega) (by omega) (by omega) (.inl rfl)
  refine ⟨w', g33_call ?_, ?_, h2.fr⟩
  · unfold g33
    simp only [wu, e1, obs, asP_pointer, asB_bool, asI_int, asS_string, asSl_slice, asM_map, asTup0, asTup1, asTup2, asTup3, asTup4, asTup5, asTup6, asTup7, asTup8, asTup9, asAgg2, asAgg3, asAgg4, asAgg5, asAgg6, asAgg7, asAgg8, asAgg9, asAgg12, getD0, getD1, getD2, getD3, getD4, getD5, getD6, getD7, getD8, getD9, getD10, getD11, getD12, getD13, getD14, getD15, getD16, getD17, getD18, getD19, Bool.not_true, Bool.not_false, Bool.false_eq_true, Bool.true_eq_false, ↓reduceIte, decide_true, decide_false, Option.isNone_some, Option.isNone_none, Option.isSome_some, Option.isSome_none, beq_self_eq_true, bne_self_eq_false, Bool.and_true, Bool.true_and, Bool.and_false, Bool.false_and, not_true_eq_false, not_false_eq_true]
    rw [show (0 : Int) = ((0 : Nat) : Int) from rfl]
    simp only [e2, obs, asP_pointer, asB_bool, asI_int, asS_string, asSl_slice, asM_map, asTup0, asTup1, asTup2, asTup3, asTup4, asTup5, asTup6, asTup7, asTup8, asTup9, asAgg2, asAgg3, asAgg4, asAgg5, asAgg6, asAgg7, asAgg8, asAgg9, asAgg12, getD0, getD1, getD2, getD3, getD4, getD5, getD6, getD7, getD8, getD9, getD10, getD11, getD12, getD13, getD14, getD15, getD16, getD17, getD18, getD19, Bool.not_true, Bool.not_false, Bool.false_eq_true, Bool.true_eq_false, ↓reduceIte, decide_true, decide_false, Option.isNone_some, Option.isNone_none, Option.isSome_some, Option.isSome_none, beq_self_eq_true, bne_self_eq_false, Bool.and_true, Bool.true_and, Bool.and_false, Bool.false_and, not_true_eq_false, not_false_eq_true]
  · have u := Sort.sorted_unique_holds (lt := Sort.ltInt) swo (by intro x y h1 h2; simp [Sort.ltInt] at h1 h2; omega) zs.toArray d' (by simpa [hl] using hp) (by simpa [hl] using hs)
    have o2 := h2.own
    rw [u] at o2
    have e3 : (fun x y : Int => !Sort.ltInt y x) = (fun x y => decide (x ≤ y)) := by funext x y; simp only [Sort.ltInt]; rw [Bool.eq_iff_iff]; simp
    rw [e3] at o2
    exact o2
end Go.Proofs.Ytlcojbodcbjkaaa.SQ
